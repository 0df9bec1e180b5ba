/- Parts of the proof: an evaluator of the model, what it is sound for, and contracts of functions. No condition. -/
import Derived.RangeFuncIn
import Derived.RangeFuncLeaves
import Derived.Orders
import Derived.Below
import Derived.Laws.CopyRow
set_option linter.all false
namespace Go.Fs
inductive Tr where
  | leaf
  | node (v : Value) (l r : Tr)
  deriving Inhabited
def Tr.get : Tr -> Nat -> Value
  | .leaf, _ => undef
  | .node v l r, i => match i with
    | 0 => v
    | k + 1 => bif Nat.beq (k % 2) 0 then l.get (k / 2) else r.get (k / 2)
def Tr.set : Nat -> Tr -> Nat -> Value -> Tr
  | 0, t, _, _ => t
  | f + 1, .leaf, i, x => match i with
    | 0 => .node x .leaf .leaf
    | k + 1 => bif Nat.beq (k % 2) 0 then .node undef (Tr.set f .leaf (k / 2) x) .leaf else .node undef .leaf (Tr.set f .leaf (k / 2) x)
  | f + 1, .node v l r, i, x => match i with
    | 0 => .node x l r
    | k + 1 => bif Nat.beq (k % 2) 0 then .node v (Tr.set f l (k / 2) x) r else .node v l (Tr.set f r (k / 2) x)
inductive bB where
  | row (e : TypeId) (cs : List Value) (own more : Bool)
  | nO (es : List MapEntry) (clock : Nat)
  | iter (s : ByteArray) (pos : Nat)
  | dL (st : LoopState) (jump : Option Code) (tmps : Tr) (n : Nat) (params : Array Tmp) (assign body : Code) (defers : Nat)
  | iR
  deriving Inhabited
structure aA where
  next : Nat
  low : Nat
  aB : List (Nat × bB)
def look : List (Nat × bB) -> Nat -> Option bB
  | [], _ => none
  | (k, o) :: r, i => bif Nat.beq k i then some o else look r i
def aA.get (h : aA) (i : Nat) : Option bB := look h.aB i
def RR : List (Nat × bB) -> Nat -> bB -> List (Nat × bB)
  | [], _, _ => []
  | (k, o) :: r, i, o' => bif Nat.beq k i then (k, o') :: r else (k, o) :: RR r i o'
def del : List (Nat × bB) -> Nat -> List (Nat × bB)
  | [], _ => []
  | (k, o) :: r, i => bif Nat.beq k i then del r i else (k, o) :: del r i
def aA.push (h : aA) (o : bB) : aA := { next := h.next + 1, low := h.low, aB := (h.next, o) :: h.aB }
def aA.set (h : aA) (i : Nat) (o : bB) : aA := { next := h.next, low := min h.low i, aB := RR h.aB i o }
def aA.drop (h : aA) (i : Nat) : aA := { next := h.next, low := min h.low i, aB := del h.aB i }
def gY : Value := .tuple #[.tuple #[]]
def tT : Value -> Bool
  | .tuple ⟨[.tuple ⟨[]⟩]⟩ => true
  | _ => false
theorem aaF {x : Value} (h : tT x = false) : x ≠ gY := fun e => by subst e; cases h
def eF : Value -> Bool
  | .bool _ | .int _ _ | .float _ _ | .complex _ _ _ | .string _ | .nilFunc | .nilIface | .pointer none | .map none | .chan none | .slice none 0 0 => true
  | _ => false
def pU : Value -> Bool
  | .agg cs => cs.toList.all eF
  | v => eF v
def af : Value -> Bool
  | .tuple vs => vs.toList.all pU
  | v => pU v
def aU : Value -> Bool
  | .agg _ | .tuple _ => false
  | _ => true
def aE {α : Type} (P : Program) : Sem α -> Option α
  | .pure a => some a
  | .program k => aE P (k P)
  | .mark _ k => aE P k
  | .load .. | .store .. | .new .. | .shape .. | .freeze .. | .frozen .. | .getObj .. | .setObj .. | .choose .. | .sys .. | .halt .. => none
def aC (t : Tr) : Operand -> Value
  | .tmp i => t.get i
  | .const v => if af v then v else gY
  | .global _ => gY
  | .func f => .func (.func f) #[] #[]
section
variable (P : Program)
def rS : TypeDesc -> Bool
  | .struct _ | .array _ _ => true
  | _ => false
def eU (t : TypeId) (v : Value) (h : aA) : Option Value :=
  match v with
  | .pointer (some ⟨b, o, none⟩) =>
    match h.get b, P.underlying t, P.info? t with
    | some (.row _ cs _ _), some d, some i =>
      if rS d then (if o + i.size <= cs.length then some (.agg ((cs.drop o).take i.size).toArray) else none) else cs[o]?
    | _, _, _ => none
  | _ => none
def cU (cs : List Value) (o : Nat) (vs : List Value) : List Value := cs.take o ++ vs ++ cs.drop (o + vs.length)
def mH (t : TypeId) (a x : Value) (h : aA) : Option aA :=
  match a with
  | .pointer (some ⟨b, o, none⟩) =>
    match h.get b, P.info? t with
    | some (.row e cs true more), some i =>
      let vs := x.cells.toList
      if vs.length = i.size /\ o + vs.length <= cs.length /\ vs.all aU = true then some (h.set b (.row e (cU cs o vs) true more)) else none
    | _, _ => none
  | _ => none
def uI (e : TypeId) (v : Value) (h : aA) : Option (Value × aA) :=
  if v.cells.toList.all aU then some (.pointer (some ⟨h.next, 0, none⟩), h.push (.row e v.cells.toList true false)) else none
def iS (t : TypeId) (len : Nat) (parts : Array (Nat × Value)) (h : aA) : Option (Value × aA) :=
  match P.underlying t with
  | some (.slice e) =>
    match P.info? e with
    | some i =>
      bif Nat.beq len 0 then bif parts.toList.isEmpty then some (.slice (some ⟨h.next, 0, none⟩) 0 0, h.push (.row e [] true false)) else none
      else
        match i.zero with
        | some z =>
          bif Nat.ble (len * i.size) 16777216 && Nat.blt 0 i.size && z.cells.toList.all eF && parts.toList.all (fun p => p.2.cells.toList.all aU) then
            match Instr.fill (fun k => some (k * i.size, i.size)) ((Array.range (len * i.size)).map (z.cells[· % z.cells.size]!)) parts.toList with
            | some cells => some (.slice (some ⟨h.next, 0, none⟩) len 0, h.push (.row e cells.toList true false))
            | none => none
          else none
        | none => none
    | none => none
  | _ => none
def fG (z : Value) (n : Nat) : List Value := (List.range (n * z.cells.size)).map fun k => z.cells[k % z.cells.size]!
def p6 (t : TypeId) (l c : Value) (h : aA) : Option (Value × aA) :=
  match P.underlying t, l, c with
  | some (.slice e), .int .i64 l, .int .i64 c =>
    match P.info? e with
    | some i =>
      match i.zero with
      | some z =>
        bif decide (0 <= l) && decide (l <= c) && decide (c <= 1099511627776) && Nat.ble (i.bytes * c.toNat) 1099511627776 && Nat.blt 0 i.size && Nat.beq z.cells.size i.size && z.cells.toList.all eF then
          some (.slice (some ⟨h.next, 0, none⟩) l.toNat 0, h.push (.row e (fG z c.toNat) true false))
        else none
      | none => none
    | none => none
  | _, _, _ => none
def eI : Option Value -> Nat -> Option Nat
  | none, d => some d
  | some (.int _ i), _ => if 0 <= i then some i.toNat else none
  | some _, _ => none
def mX (e : TypeId) (b l mk : Nat) (h : aA) : Nat :=
  bif Nat.beq l 0 then mk else bif Nat.beq mk 0 then
    match h.get b with
    | some (.row e' _ _ _) => bif Nat.beq e' e then 0 else 2
    | _ => 2
  else 2
def cutAt (size b o l k mk : Nat) : Value := bif Nat.blt l k || Nat.beq l 0 then .slice (some ⟨b, o + l * size, none⟩) (k - l) mk else .slice (some ⟨0, 0, none⟩) 0 2
def dN (t : TypeId) (x : Value) (lo hi mx : Option Value) (h : aA) : Option Value :=
  match P.underlying t with
  | some .string =>
    bif af x && lo.all af && hi.all af && mx.all af then (aE P (Instr.sliceAt t x lo hi mx)).bind fun v => bif af v then some v else none else none
  | some (.slice e) =>
    match x with
    | .slice none 0 0 =>
      match eI lo 0, eI hi 0, eI mx 0 with
      | some 0, some 0, some 0 => bif mx.isNone || hi.isSome then (P.info? e).map fun _ => .slice none 0 0 else none
      | _, _, _ => none
    | .slice (some ⟨b, o, none⟩) n mk =>
      match P.info? e, eI lo 0, eI hi n with
      | some i, some l, some k =>
        match mx with
        | none =>
          bif Nat.ble l k && Nat.ble k n then
            some (cutAt i.size b o l k (bif Nat.beq mk 1 then (bif Nat.beq k n then 1 else 2) else mX e b l mk h))
          else bif Nat.blt l k && Nat.beq mk 0 then
            match h.get b with
            | some (.row e' cs true _) => bif Nat.beq e' e && Nat.blt 0 i.size && Nat.ble (o + k * i.size) cs.length then some (cutAt i.size b o l k 0) else none
            | _ => none
          else none
        | some _ =>
          match hi, eI mx 0 with
          | some _, some m => bif Nat.ble l k && Nat.beq k m && Nat.ble k n then some (cutAt i.size b o l k 1) else none
          | _, _ => none
      | _, _, _ => none
    | _ => none
  | some (.array n e) =>
    match x with
    | .pointer (some ⟨b, o, none⟩) =>
      match P.info? e, eI lo 0, eI hi n, mx with
      | some i, some l, some k, none => bif Nat.blt l k && Nat.beq k n then some (.slice (some ⟨b, o + l * i.size, none⟩) (k - l) 1) else none
      | _, _, _, _ => none
    | _ => none
  | _ => none
def cellsOf (size n : Nat) (x : Value) (h : aA) : Option (List Value) :=
  match x with
  | .slice none 0 0 => bif Nat.beq n 0 then some [] else none
  | .slice (some ⟨b, o, none⟩) k _ =>
    bif Nat.ble n k then
      bif Nat.beq (n * size) 0 then some []
      else match h.get b with
        | some (.row _ cs _ _) => bif Nat.ble (o + n * size) cs.length then some ((cs.drop o).take (n * size)) else none
        | _ => none
    else none
  | .string s => some ((s.extract 0 n).data.map fun b => .int .u8 b.toNat).toList
  | _ => none
def q4 : Value -> Option Nat
  | .slice _ n _ => some n
  | .string s => some s.size
  | _ => none
def isInt : TypeDesc -> Bool
  | .int _ => true
  | _ => false
def fZ (i : TypeInfo) (z : Value) (made : Bool) (x : Value) (h : aA) : Option (Nat × List Value) :=
  bif made then
    match x with
    | .int .i64 l => bif decide (0 <= l) && decide (l <= 1099511627776) && Nat.ble (l.toNat * i.bytes) 1099511627776 && z.cells.toList.all eF then some (l.toNat, fG z l.toNat) else none
    | _ => none
  else match q4 x with
    | some m => (cellsOf i.size m x h).map fun cs => (m, cs)
    | none => none
def grown (e : TypeId) (n : Nat) (cs : List Value) (h : aA) : Value × aA := (.slice (some ⟨h.next, 0, none⟩) n 0, h.push (.row e cs true true))
def kX (e : TypeId) (i : TypeInfo) (s : Value) (m : Nat) (news : List Value) (h : aA) : Option (Value × aA) :=
  match s with
  | .slice none 0 0 => bif Nat.beq m 0 then some (.slice none 0 0, h) else bif Nat.ble (m * i.bytes) 274877906944 then some (grown e m news h) else none
  | .slice (some ⟨b, o, none⟩) n mk =>
    bif Nat.beq m 0 && Nat.beq mk 1 then some (s, h) else
    match h.get b with
    | some (.row e' cs own more) =>
      bif Nat.beq e' e && Nat.ble ((n + m) * i.bytes) 274877906944 && Nat.ble (o + n * i.size) cs.length then
        bif Nat.beq mk 1 then some (grown e (n + m) ((cs.drop o).take (n * i.size) ++ news) h)
        else bif Nat.beq mk 0 && own then
          bif Nat.ble (o + (n + m) * i.size) cs.length then some (.slice (some ⟨b, o, none⟩) (n + m) 0, bif Nat.beq m 0 then h else h.set b (.row e (cU cs (o + n * i.size) news) own more))
          else bif !more then some (grown e (n + m) ((cs.drop o).take (n * i.size) ++ news) h)
          else bif Nat.beq o 0 && Nat.beq (n * i.size) cs.length then some (grown e (n + m) (cs ++ news) (h.drop b))
          else none
        else none
      else none
    | _ => none
  | _ => none
def dQ (argTypes : Array TypeId) (s x : Value) (h : aA) : Option (Value × aA) :=
  match argTypes[0]?, argTypes[1]? with
  | some st, some xt =>
    match P.underlying st, P.underlying xt with
    | some (.slice e), some xd =>
      match P.info? e with
      | some i =>
        match i.zero with
        | some z =>
          match fZ i z (isInt xd) x h with
          | some (m, news) =>
            bif Nat.blt 0 i.size && Nat.blt 0 i.bytes && Nat.beq news.length (m * i.size) && news.all aU && Nat.beq z.cells.size i.size then kX e i s m news h
            else none
          | none => none
        | none => none
      | none => none
    | _, _ => none
  | _, _ => none
def rT (argTypes : Array TypeId) (d x : Value) (h : aA) : Option (Value × aA) :=
  match argTypes[0]? with
  | some dt =>
    match P.underlying dt with
    | some (.slice e) =>
      match P.info? e, q4 x, q4 d with
      | some i, some m, some k =>
        match cellsOf i.size (Nat.min m k) x h with
        | some vs =>
          bif Nat.beq vs.length (Nat.min m k * i.size) && vs.all aU then
            match d with
            | .slice none 0 0 => some (.int .i64 (Nat.min m k : Nat), h)
            | .slice (some ⟨b, o, none⟩) _ _ =>
              bif Nat.beq (Nat.min m k * i.size) 0 then some (.int .i64 (Nat.min m k : Nat), h) else
              match h.get b with
              | some (.row e' cs true more) => bif Nat.ble (o + Nat.min m k * i.size) cs.length then some (.int .i64 (Nat.min m k : Nat), h.set b (.row e' (cU cs o vs) true more)) else none
              | _ => none
            | _ => none
          else none
        | none => none
      | _, _, _ => none
    | _ => none
  | none => none
def qY (argTypes : Array TypeId) (x : Value) (h : aA) : Option aA :=
  match argTypes[0]? with
  | some t =>
    match P.underlying t with
    | some (.slice e) =>
      match x with
      | .slice none 0 0 => some h
      | .slice (some ⟨b, o, none⟩) n _ =>
        bif Nat.beq n 0 then some h else
        match P.info? e, h.get b with
        | some i, some (.row e' cs true more) =>
          match i.zero with
          | some z => bif (fG z n).all eF && Nat.ble (o + (fG z n).length) cs.length then some (h.set b (.row e' (cU cs o (fG z n)) true more)) else none
          | none => none
        | _, _ => none
      | _ => none
    | _ => none
  | none => none
def kI (argTypes : Array TypeId) (x : Value) (h : aA) : Option Value :=
  match x with
  | .map (some b) =>
    match (argTypes[0]?).bind P.underlying, h.get b with
    | some (.map _ _), some (.nO es _) => some (.int .i64 es.length)
    | _, _ => none
  | .slice _ n _ =>
    match (argTypes[0]?).bind P.underlying with
    | some (.slice _) => some (.int .i64 n)
    | _ => none
  | .string s =>
    match (argTypes[0]?).bind P.underlying with
    | some .string => some (.int .i64 s.size)
    | _ => none
  | .map none =>
    match (argTypes[0]?).bind P.underlying with
    | some (.map _ _) => some (.int .i64 0)
    | _ => none
  | _ => none
def JB (argTypes : Array TypeId) (x : Value) (h : aA) : Option Value :=
  match (argTypes[0]?).bind P.underlying, x with
  | some (.slice e), .slice (some ⟨b, o, none⟩) n mk =>
    bif Nat.beq mk 1 then some (.int .i64 n) else
    match P.info? e, h.get b with
    | some i, some (.row e' cs true false) => bif Nat.beq e' e && Nat.blt 0 i.size && Nat.ble o cs.length && Nat.beq mk 0 then some (.int .i64 ((cs.length - o) / i.size : Nat)) else none
    | _, _ => none
  | some (.slice _), .slice none 0 0 => some (.int .i64 0)
  | _, _ => none
def qQ : List Value -> Option (List UInt8)
  | [] => some []
  | .int .u8 (.ofNat n) :: r => bif Nat.blt n 256 then (qQ r).map (UInt8.ofNat n :: ·) else none
  | _ => none
def w5 (x : Value) : Option Value := match x with
  | .slice none 0 0 => some (.pointer none)
  | .slice (some ⟨b, o, none⟩) n _ => bif Nat.beq n 0 then none else some (.pointer (some ⟨b, o, none⟩))
  | _ => none
def w6 (argTypes : Array TypeId) (p n : Value) (h : aA) : Option (Value × aA) :=
  match argTypes.toList, p, n with
  | [pt, _], .pointer none, .int .i64 0 => match P.underlying pt with
    | some (.pointer _) => some (.string .empty, h)
    | _ => none
  | [pt, _], .pointer (some ⟨b, 0, none⟩), .int .i64 (.ofNat (n + 1)) => match P.underlying pt, h.get b with
    | some (.pointer e), some (.row e' cs true _) => bif Nat.beq e' e && Nat.beq (P.cellsOf e) 1 && Nat.ble (n + 1) cs.length && Nat.ble n 1000000000 then
        match qQ (cs.take (n + 1)) with
        | some l => some (.string ⟨l.toArray⟩, h.drop b)
        | none => none
      else none
    | _, _ => none
  | _, _, _ => none
def cL (s : Sem Value) : Option Value := (aE P s).bind fun v => if af v then some v else none
def w7 (b : Builtin) (argTypes : Array TypeId) (type : TypeId) (args : List Value) (h : aA) : Option (Value × aA) :=
  match b, args with
  | .append, [s, x] => dQ P argTypes s x h
  | .copy, [d, x] => rT P argTypes d x h
  | .clear, [x] => (qY P argTypes x h).map fun h' => (.tuple #[], h')
  | .len, [x] => (kI P argTypes x h).map fun v => (v, h)
  | .cap, [x] => (JB P argTypes x h).map fun v => (v, h)
  | .unsafeSliceData, [x] => (w5 x).map fun v => (v, h)
  | .unsafeString, [p, n] => w6 P argTypes p n h
  | .min, args => if args.all af then (cL P (Builtin.min_ argTypes type args.toArray)).map fun v => (v, h) else none
  | .max, args => if args.all af then (cL P (Builtin.max_ argTypes type args.toArray)).map fun v => (v, h) else none
  | _, _ => none
def w8 (keyType : TypeId) (k : Value) (es : List MapEntry) : Option (Option Nat) :=
  match P.underlying keyType with
  | some d => match Instr.findNow d k es 0 with
    | some r => some (r.map (·.1))
    | none => (aE P (Instr.findAsking keyType k es)).map fun r => r.map (·.1)
  | none => none
def gJ (VG : TypeId) (x k : Value) (RS : Bool) (h : aA) : Option Value :=
  match P.underlying VG with
  | some (.map key elem) =>
    match (P.info? elem).bind (·.zero) with
    | some z =>
      let es := match x with
        | .map none => some []
        | .map (some b) => match h.get b with | some (.nO es _) => some es | _ => none
        | _ => none
      match es with
      | some es =>
        if af k = true /\ af z = true /\ (aE P (Instr.checkKey es.isEmpty 10000 key k)).isSome = true then
          match w8 P key k es with
          | some (some i) => match es[i]? with
            | some e => some (if RS then .tuple #[e.val, .bool true] else e.val)
            | none => none
          | some none => some (if RS then .tuple #[z, .bool false] else z)
          | none => none
        else none
      | none => none
    | none => none
  | _ => none
def kY (mapType : TypeId) (m k v : Value) (h : aA) : Option aA :=
  match P.underlying mapType, m with
  | some (.map key _), .map (some b) =>
    match h.get b with
    | some (.nO es clock) =>
      if af k = true /\ (aE P (Instr.checkKey false 10000 key k)).isSome = true then
        match w8 P key k es with
        | some (some i) => match es[i]? with
          | some e => if Instr.sameBits 10000 e.key k = true then some (h.set b (.nO (es.set i { e with key := k, val := v }) clock)) else none
          | none => none
        | some none => some (h.set b (.nO (es ++ [{ key := k, val := v, born := clock }]) (clock + 1)))
        | none => none
      else none
    | _ => none
  | _, _ => none
def xX (VG : TypeId) (x : Value) (h : aA) : Option (Value × aA) :=
  match P.underlying VG, x with
  | some .string, .string s => some (.pointer (some ⟨h.next, 0, none⟩), h.push (.iter s 0))
  | _, _ => none
def w9 (it : Value) (isString : Bool) (h : aA) : Option (Value × aA) :=
  match it, isString with
  | .pointer (some ⟨b, 0, none⟩), true =>
    match h.get b with
    | some (.iter s pos) =>
      if pos < s.size then
        let d := Utf8.decode s pos
        some (.tuple #[.bool true, .int .i64 pos, .int .i32 d.1], h.set b (.iter s (pos + d.2)))
      else some (.tuple #[.bool false], h)
    | _ => none
  | _, _ => none
def RT : BinOp -> Option Bool
  | .eql => some false
  | .neq => some true
  | _ => none
def wA (op : BinOp) (t : TypeId) (x y : Value) : Option Bool :=
  match x, y with
  | .slice (some _) _ _, .slice none 0 0 => match P.underlying t with
    | some (.slice _) => RT op
    | _ => none
  | .map (some _), .map none => match P.underlying t with
    | some (.map _ _) => RT op
    | _ => none
  | .func _ _ _, .nilFunc => match P.underlying t with
    | some (.func _ _ _) => RT op
    | _ => none
  | _, _ => none
def jM (k : FloatKind) : Value := .iface 0 (.float k 0)
def D5 : Value -> Bool
  | .iface 0 (.float _ 0) => true
  | _ => false
def uJ : Value -> Option FloatKind
  | .float k _ => some k
  | .iface 0 (.float k 0) => some k
  | _ => none
def JC (op : BinOp) (k : FloatKind) (a b : Nat) : Bool := match op with
  | .add => (k.format.add a b).isNone
  | .sub => (k.format.sub a b).isNone
  | .mul => (k.format.mul a b).isNone
  | .quo => (k.format.div a b).isNone
  | _ => false
def zN (op : BinOp) (x y : Value) : Option Value := match x, y with
  | .float k a, .float k' b => bif decide (k = k') && JC op k a b then some (jM k) else none
  | _, _ => none
def IU : BinOp -> Option Bool
  | .eql | .lss | .leq | .gtr | .geq => some false
  | .neq => some true
  | _ => none
def rU (op : BinOp) (x y : Value) : Option Bool := match uJ x, uJ y with
  | some k, some k' => bif decide (k = k') && (D5 x || D5 y) then IU op else none
  | _, _ => none
def zO (s d : TypeId) (x : Value) : Option Value := match x, P.underlying s, P.underlying d with
  | .float k b, some _, some (.float k') => bif !decide (k = k') && (k.decode b).isNaN then some (jM k') else none
  | _, _, _ => none
def cQ (call : FuncId -> List Value -> aA -> Option (Value × aA)) (yield : Nat -> List Value -> aA -> Option (Value × aA)) (o : Oper) (ev : Operand -> Value) (h : aA) :
    Option (Value × aA) :=
  match o.op with
  | .move x | .assign x => some (ev x, h)
  | .pick c a b => match ev c with
    | .bool true => some (ev a, h)
    | .bool false => some (ev b, h)
    | _ => none
  | .alloc e => match (P.info? e).bind (·.zero) with
    | some z => if af z then uI e z h else none
    | none => none
  | .box e x => uI e (ev x) h
  | .build t parts =>
    bif parts.toList.all (fun p => (ev p.2).cells.toList.all aU) && (((P.info? t).bind (·.zero)).map fun z => z.cells.toList.all eF) == some true then
      (aE P (Instr.build t (parts.map fun p => (p.1, ev p.2)))).map fun v => (v, h)
    else none
  | .buildSlice t len parts => iS P t len (parts.map fun p => (p.1, ev p.2)) h
  | .load t a => (eU P t (ev a) h).map fun v => (v, h)
  | .store t a x => (mH P t (ev a) (ev x) h).map fun h' => (undef, h')
  | .nilCheck x => match ev x with
    | .pointer (some a) => some (.pointer (some a), h)
    | .func (.func f) a b => some (.func (.func f) a b, h)
    | _ => none
  | .binOp op t x y _ =>
    if af (ev x) && af (ev y) then ((cL P (do eqGuard op t x y (ev x) (ev y); binOp op t (ev x) (ev y))).or (zN op (ev x) (ev y))).map fun v => (v, h)
    else ((wA P op t (ev x) (ev y)).or (rU op (ev x) (ev y))).map fun b => (.bool b, h)
  | .unOp op _ x => if af (ev x) then (cL P (Op.unary op (ev x))).map fun v => (v, h) else none
  | .convert s d x => if af (ev x) then ((cL P (convert s d (ev x))).or (zO P s d (ev x))).map fun v => (v, h) else none
  | .makeFunc (.func f) first captured => some (.func (.func f) (first.map ev) (captured.map ev), h)
  | .makeMap _ none => some (.map (some h.next), h.push (.nO [] 0))
  | .makeSlice t l c => p6 P t (ev l) (ev c) h
  | .slice t x lo hi mx => (dN P t (ev x) (lo.map ev) (hi.map ev) (mx.map ev) h).map fun v => (v, h)
  | .fieldAddr s x f => (aE P (Instr.fieldAt s (ev x) f)).map fun v => (v, h)
  | .field t x f => (aE P (Instr.field t (ev x) f)).map fun v => (v, h)
  | .indexAddr t x ix => if af (ev ix) then (aE P (Instr.indexAt t (ev x) (ev ix))).map fun v => (v, h) else none
  | .index t x ix => if af (ev ix) then (aE P (Instr.index t (ev x) (ev ix))).map fun v => (v, h) else none
  | .lookup t x k ok => (gJ P t (ev x) (ev k) ok h).map fun v => (v, h)
  | .mapUpdate t m k x | .insert t m k x => (kY P t (ev m) (ev k) (ev x) h).map fun h' => (undef, h')
  | .range t x => xX P t (ev x) h
  | .next it s => w9 (ev it) s h
  | .extract t ix => bif tT (ev t) then none else (aE P (Instr.extract (ev t) ix)).map fun v => (v, h)
  | .call c =>
    match c.callee with
    | .builtin b => w7 P b c.argTypes o.type (c.args.toList.map ev) h
    | .value f => match ev f with
      | .func (.func g) first captured => call g (first.toList ++ c.args.toList.map ev ++ captured.toList) h
      | .func (.yield l) ⟨[]⟩ ⟨[]⟩ => yield l (c.args.toList.map ev) h
      | _ => none
    | .invoke _ _ => none
  | _ => none
def D6 (o : Oper) (ev : Operand -> Value) (h : aA) : Option (Value × aA) := match o.op with
  | .convert s d x => match ev x with
    | .slice (some ⟨b, 0, none⟩) n 0 => match P.underlying s with
      | some (.slice e) => match P.underlying e with
        | some (.int .u8) => match h.get b with
          | some (.row e' cs true false) => bif Nat.beq s d && Nat.beq n cs.length && Nat.beq (P.cellsOf e') 1 then some (.slice (some ⟨h.next, 0, none⟩) n 0, (h.drop b).push (.row e' cs true false)) else none
          | _ => none
        | _ => none
      | _ => none
    | _ => none
  | _ => none
def D7 (o : Oper) (ev : Operand -> Value) (h : aA) : Option (Value × aA) := match o.op with
  | .convert s d x => match ev x with
    | .slice (some ⟨b, 0, none⟩) n _ => match P.underlying s with
      | some (.slice e) => match P.underlying e with
        | some (.int .u8) => match P.underlying d with
          | some .string => match h.get b with
            | some (.row _ cs true _) => bif Nat.ble n cs.length then (qQ (cs.take n)).map fun l => (.string ⟨l.toArray⟩, h) else none
            | _ => none
          | _ => none
        | _ => none
      | _ => none
    | _ => none
  | _ => none
def acY (h : aA) (g : Nat) : Value := match h.get (g + 1), P.globals[g]? with
  | some (.row e _ false true), some gl => bif Nat.beq gl.type e then .pointer (some ⟨g + 1, 0, none⟩) else gY
  | _, _ => gY
def evG (h : aA) (ev : Operand -> Value) : Operand -> Value
  | .global g => acY P h g
  | x => ev x
def al4 : Op -> Bool
  | .load _ (.global _) | .slice _ (.global _) none none none | .indexAddr _ (.global _) _ => true
  | _ => false
def D8 (o : Oper) (ev : Operand -> Value) (h : aA) : Option (Value × aA) := match D6 P o ev h with
  | some r => some r
  | none => match D7 P o ev h with
    | some r => some r
    | none => bif al4 o.op then cQ P (fun _ _ _ => none) (fun _ _ _ => none) o (evG P h ev) h else none
def sG (call : FuncId -> List Value -> aA -> Option (Value × aA)) (yield : Nat -> List Value -> aA -> Option (Value × aA)) (o : Oper) (ev : Operand -> Value) (h : aA) : Option (Value × aA) :=
  match cQ P call yield o ev h with
  | some r => some r
  | none => D8 P o ev h
def bJ (ops : Array Oper) (t : Tr) (o : Oper) : Option Bool :=
  match o.guard with
  | none => some true
  | some (j, want) =>
    match (ops[j]?).bind (·.dst) with
    | none => some false
    | some d => match t.get d with
      | .bool b => some (b == want)
      | .tuple ⟨[]⟩ => some false
      | _ => none
def depth : Nat := 13
def put (n : Nat) (t : Tr) (dst : Option Tmp) (v : Value) : Option Tr :=
  match dst with
  | some d => bif Nat.blt d n then some (t.set depth d v) else none
  | none => some t
def p7 (step : Oper -> (Operand -> Value) -> aA -> Option (Value × aA)) (ops : Array Oper) (n : Nat) : List Oper -> Tr -> aA -> Option (Tr × aA)
  | [], t, h => some (t, h)
  | o :: r, t, h =>
    match bJ ops t o with
    | some true => match step o (aC t) h with
      | some (v, h') => match put n t o.dst v with
        | some t' => p7 step ops n r t' h'
        | none => none
      | none => none
    | some false => match put n t o.dst undef with
      | some t' => p7 step ops n r t' h
      | none => none
    | none => none
def calm : Op -> Bool
  | .move _ | .assign _ | .pick .. | .build .. | .nilCheck _ | .binOp .. | .unOp .. | .convert .. | .makeFunc .. | .fieldAddr .. | .field .. | .indexAddr .. | .index .. | .extract .. => true
  | .call { callee := .builtin .max, .. } | .call { callee := .builtin .min, .. } => true
  | _ => false
def outside (lo hi : Nat) (p : Nat × bB) : Bool := !(decide (lo <= p.1) && decide (p.1 < hi))
def mask (b : Nat) : List (Nat × Nat × Nat) -> List (Nat × bB) -> List (Nat × bB)
  | [], aB => aB
  | (k, lo, hi) :: segs, aB => mask b segs (if b.testBit k then aB else aB.filter (outside lo hi))
structure dS where
  t : Tr
  h : aA
  bs : List Nat
  segs : List (Nat × Nat × Nat)
  mem : Nat
  tail : Bool
def aP (bs : List Nat) (o : Oper) : Nat := o.after.toList.foldl (fun s e => if Region.binds .any e then s ||| 2 ^ e.on ||| bs.getD e.on 0 else s) 0
def D9 : List Oper -> List Nat -> List Nat
  | [], bs => bs
  | o :: r, bs => D9 r (bs ++ [aP bs o])
def reads (ops : Array Oper) (o : Oper) : List Tmp := o.looksAt ops
def PF (ops : List Oper) (x : Tmp) : List Nat := (ops.zipIdx).filterMap fun (o, i) => match o.dst with | some d => bif Nat.beq d x then some i else none | none => none
def RU (ops : Array Oper) (l : List Oper) (bs : List Nat) (o : Oper) (i : Nat) : Bool :=
  o.after.toList.all (fun e => !Region.binds .any e || Nat.blt e.on i) &&
  (match o.dst with | some d => (PF l d).all (Nat.beq i) | none => true) &&
  (o.looksAt ops).all fun x => (PF l x).all fun j => Nat.beq j i || (bs.getD i 0).testBit j || (bs.getD j 0).testBit i
def oQ (ops : Array Oper) : Bool := let bs := D9 ops.toList []; (ops.toList.zipIdx).all fun (o, i) => RU ops ops.toList bs o i
def codeOk : Code -> Bool
  | .region _ ops true => oQ ops
  | .seq a b => codeOk a && codeOk b
  | .cond _ a b => codeOk a && codeOk b
  | .block _ b => codeOk b
  | .loop b => codeOk b
  | .scope b => codeOk b
  | .rangeFunc _ _ a b => codeOk a && codeOk b
  | _ => true
def inside (lo hi : Nat) (p : Nat × bB) : Bool := Nat.ble lo p.1 && Nat.blt p.1 hi
def bH (lo hi : Nat) (l : List (Nat × bB)) : List (Nat × bB) := bif Nat.beq lo hi then [] else l.filter (inside lo hi)
def gH (step : Oper -> (Operand -> Value) -> aA -> Option (Value × aA)) (ops : Array Oper) (n : Nat) (o : Oper) (i : Nat) (s : dS) : Option dS :=
  let b := aP s.bs o
  let bs := s.bs ++ [b]
  match bJ ops s.t o with
  | some false => (put n s.t o.dst undef).map fun t => { s with t, bs }
  | none => none
  | some true =>
    if calm o.op then
      match step o (aC s.t) { next := s.h.next, low := s.h.next, aB := [] } with
      | some (v, h') => bif Nat.beq h'.next s.h.next then (put n s.t o.dst v).map fun t => { s with t, bs } else none
      | none => none
    else
      let ordered := Nat.beq (s.mem &&& b) s.mem
      bif s.tail && !ordered then none else
      match step o (aC s.t) { next := s.h.next, low := s.h.next, aB := bif ordered then s.h.aB else mask b s.segs s.h.aB } with
      | some (v, h') =>
        bif Nat.blt h'.next s.h.next then none else
        match put n s.t o.dst v with
        | some t =>
          let mem := s.mem ||| 2 ^ i
          let segs := (i, s.h.next, h'.next) :: s.segs
          bif Nat.ble s.h.next h'.low then
            some { t, h := { next := h'.next, low := s.h.low, aB := bH s.h.next h'.next h'.aB ++ s.h.aB }, bs, segs, mem, tail := s.tail }
          else bif ordered then some { t, h := { next := h'.next, low := min s.h.low h'.low, aB := h'.aB }, bs, segs, mem, tail := true }
          else none
        | none => none
      | none => none
def kJ (step : Oper -> (Operand -> Value) -> aA -> Option (Value × aA)) (ops : Array Oper) (n : Nat) : List Oper -> Nat -> dS -> Option dS
  | [], _, s => some s
  | o :: r, i, s => match gH step ops n o i s with
    | some s' => kJ step ops n r (i + 1) s'
    | none => none
structure Fr where
  t : Tr
  n : Nat
  marks : List Nat
inductive Ex where
  | normal
  | exit (id : Nat)
  | ret
  deriving DecidableEq
def Ex.kB : Ex -> Bool
  | .exit _ => false
  | _ => true
abbrev Rec := Option Nat -> Code -> Fr -> aA -> Option (Ex × Fr × aA)
def vA (t : Tr) (h : aA) : ResultVar -> Option Value
  | .tmp i => some (t.get i)
  | .cell a ty => eU P ty (t.get a) h
def jX (t : Tr) (h : aA) : List ResultVar -> Option (List Value)
  | [] => some []
  | r :: rs => match vA P t h r, jX t h rs with
    | some v, some vs => some (v :: vs)
    | _, _ => none
def kZ : Tr -> Nat -> List Value -> Tr
  | t, _, [] => t
  | t, i, v :: r => kZ (t.set depth i v) (i + 1) r
def iM : List Value -> Value
  | [v] => v
  | vs => .tuple vs.toArray
def l4 : List Nat -> aA -> Option aA
  | [], h => some h
  | d :: r, h => match h.get d with
    | some .iR => l4 r (h.drop d)
    | _ => none
def lL (aW : Bool) (rec : Rec) (f : FuncId) (args : List Value) (h : aA) : Option (Value × aA) :=
  match P.funcs[f]? with
  | some fn =>
    match fn.body with
    | some c =>
      bif Nat.blt 4000 fn.ntmps || Nat.blt fn.ntmps args.length then none else
      match rec none c ⟨kZ .leaf 0 args, fn.ntmps, []⟩ { next := h.next, low := h.next, aB := h.aB } with
      | some (e, fr, h1) =>
        bif e.kB then
          match l4 fr.marks h1 with
          | some h2 =>
            match jX P fr.t h2 fn.results.toList with
            | some vs =>
              let v := iM vs
              bif !aW && (af v && Nat.ble h.next h2.low) then some (v, h)
              else some (v, { next := h2.next, low := min h.low h2.low, aB := h2.aB })
            | none => none
          | none => none
        else none
      | none => none
    | none => none
  | none => none
def p8 (rec : Rec) : FuncId -> List Value -> aA -> Option (Value × aA) := lL P false rec
def qR (n : Nat) : Tr -> List (Tmp × Value) -> Option Tr
  | t, [] => some t
  | t, (i, v) :: r => match put n t (some i) v with
    | some t' => qR n t' r
    | none => none
def fD : Ex -> Option Code
  | .normal => none
  | .exit id => some (.exit id)
  | .ret => some .ret
def eJ (rec : Rec) (l : Nat) (args : List Value) (h : aA) : Option (Value × aA) :=
  match h.get l with
  | some (.dL .ready _ tmps n params assign body _) =>
    bif Nat.beq args.length params.size then
      match qR n tmps (params.toList.zip args) with
      | some t =>
        match rec (some l) assign ⟨t, n, []⟩ h with
        | some (.normal, fr, h1) =>
          match h1.get l with
          | some (.dL .ready jump tmps n params xY JD d) =>
            match rec (some l) body fr (h1.set l (.dL .busy jump tmps n params xY JD d)) with
            | some (e, _, h2) =>
              match h2.get l with
              | some (.dL _ _ tmps n params xY JD d) =>
                some (.bool (fD e).isNone, h2.set l (.dL (bif (fD e).isNone then .ready else .done) (fD e) tmps n params xY JD d))
              | _ => none
            | none => none
          | _ => none
        | _ => none
      | none => none
    else none
  | _ => none
def IV (b7 : Option Nat) (h : aA) : Option (Nat × List Nat × aA) :=
  match b7 with
  | none => some (h.next, [h.next], h.push .iR)
  | some l => match h.get l with
    | some (.dL _ _ _ _ _ _ _ d) => some (d, [], h)
    | _ => none
def jN (rec : Rec) (b7 : Option Nat) (g : Operand) (ps : Array Tmp) (assign body : Code) (fr : Fr) (h : aA) : Option (Ex × Fr × aA) :=
  match IV b7 h with
  | some (d, mark, h1) =>
    match aC fr.t g with
    | .func (.func f) first captured =>
      match lL P true rec f (first.toList ++ [.func (.yield h1.next) #[] #[]] ++ captured.toList) (h1.push (.dL .ready none fr.t fr.n ps assign body d)) with
      | some (_, h3) =>
        match h3.get h1.next with
        | some (.dL st jump tmps n params xY JD d) =>
          match st with
          | .busy => none
          | _ =>
            let h4 := h3.set h1.next (.dL .exhausted jump tmps n params xY JD d)
            let lE : Fr := { t := fr.t, n := fr.n, marks := mark ++ fr.marks }
            match jump with
            | none => some (.normal, lE, h4)
            | some .ret => some (.ret, lE, h4)
            | some (.exit id) => some (.exit id, lE, h4)
            | _ => none
        | _ => none
      | none => none
    | _ => none
  | none => none
def FI (f : FuncId) (args : List Value) (h : aA) : Option (Value × aA) :=
  match P.funcs[f]? with
  | some fn => bif fn.body.isNone && !(fn.name == "runtime.NumGoroutine") then
      match Extern.findNext fn, Extern.find fn with
      | none, some e => bif args.all af then (cL P (e args.toArray)).map fun v => (v, h) else none
      | _, _ => none
    else none
  | none => none
def eG (orc : FuncId -> List Value -> aA -> Option (Value × aA)) (rec : Rec) : FuncId -> List Value -> aA -> Option (Value × aA) := fun f args h =>
  match orc f args h with
  | some r => some r
  | none => match FI P f args h with
    | some r => some r
    | none => p8 P rec f args h
def rV (op : Op) (ev : Operand -> Value) : Option Nat := match op with
  | .store _ a _ => match ev a with
    | .pointer (some ⟨b, _, none⟩) => some b
    | _ => none
  | .call { callee := .builtin .append, args, .. } => match (args.toList.map ev) with
    | .slice (some ⟨b, _, none⟩) _ _ :: _ => some b
    | _ => none
  | _ => none
abbrev wB := dS × List Nat × List Nat
def zP (P : Program) (h0 : aA) (op : Op) (ev : Operand -> Value) (nx : Nat) : Option (Value × List Nat) := match op with
  | .load T a => match ev a with
    | .pointer (some ⟨b, o, none⟩) => match h0.get b with
      | some ob => bif Nat.blt b h0.next then (eU P T (.pointer (some ⟨b, o, none⟩)) { next := nx, low := nx, aB := [(b, ob)] }).map fun v => (v, [b]) else none
      | none => none
    | _ => none
  | .call { callee := .builtin .len, args, argTypes, .. } => match args.toList with
    | [x] => (kI P argTypes (ev x) { next := nx, low := nx, aB := [] }).map fun v => (v, [])
    | _ => none
  | .slice T x lo hi mx => match ev x with
    | .slice p 0 mk => (dN P T (.slice p 0 mk) (lo.map ev) (hi.map ev) (mx.map ev) { next := nx, low := nx, aB := [] }).map fun v => (v, [])
    | .slice (some ⟨b, o, none⟩) n mk => match h0.get b with
      | some ob => bif Nat.blt b h0.next then (dN P T (.slice (some ⟨b, o, none⟩) n mk) (lo.map ev) (hi.map ev) (mx.map ev) { next := nx, low := nx, aB := [(b, ob)] }).map fun v => (v, [b]) else none
      | none => none
    | _ => none
  | _ => none
def nP (P : Program) (step : Oper -> (Operand -> Value) -> aA -> Option (Value × aA)) (ops : Array Oper) (n : Nat) (o : Oper) (i : Nat) (x : wB) : Option wB :=
  let s := x.1
  let b := aP s.bs o
  let bs := s.bs ++ [b]
  let ordered := Nat.beq (s.mem &&& b) s.mem
  bif s.tail && !ordered then none else
  match step o (aC s.t) { next := s.h.next, low := s.h.next, aB := bif ordered then s.h.aB else mask b s.segs s.h.aB } with
  | some (v, h') =>
    bif Nat.blt h'.next s.h.next then none else
    match put n s.t o.dst v with
    | some t =>
      let mem := s.mem ||| 2 ^ i
      let segs := (i, s.h.next, h'.next) :: s.segs
      bif Nat.ble s.h.next h'.low then
        some ({ t, h := { next := h'.next, low := s.h.low, aB := bH s.h.next h'.next h'.aB ++ s.h.aB }, bs, segs, mem, tail := s.tail }, x.2)
      else bif ordered then
        match rV o.op (aC s.t) with
        | some k => some ({ t, h := { next := h'.next, low := min s.h.low h'.low, aB := h'.aB }, bs, segs, mem, tail := true }, x.2.1, k :: x.2.2)
        | none => none
      else none
    | none => none
  | none => none
def eV (P : Program) (h0 : aA) (step : Oper -> (Operand -> Value) -> aA -> Option (Value × aA)) (ops : Array Oper) (n : Nat) (o : Oper) (i : Nat) (x : wB) : Option wB :=
  let s := x.1
  match bJ ops s.t o with
  | some false => (put n s.t o.dst undef).map fun t => ({ s with t, bs := s.bs ++ [aP s.bs o] }, x.2)
  | none => none
  | some true =>
    if calm o.op then
      match step o (aC s.t) { next := s.h.next, low := s.h.next, aB := [] } with
      | some (v, h') => bif Nat.beq h'.next s.h.next then (put n s.t o.dst v).map fun t => ({ s with t, bs := s.bs ++ [aP s.bs o] }, x.2) else none
      | none => none
    else match zP P h0 o.op (aC s.t) s.h.next with
      | some (v, b) => (put n s.t o.dst v).map fun t => ({ s with t, bs := s.bs ++ [aP s.bs o] }, b ++ x.2.1, x.2.2)
      | none => nP P step ops n o i x
def jY (P : Program) (h0 : aA) (step : Oper -> (Operand -> Value) -> aA -> Option (Value × aA)) (ops : Array Oper) (n : Nat) : List Oper -> Nat -> wB -> Option wB
  | [], _, x => some x
  | o :: r, i, x => match eV P h0 step ops n o i x with
    | some x' => jY P h0 step ops n r (i + 1) x'
    | none => none
def IW (x : wB) : Bool := x.2.1.all fun b => x.2.2.all fun k => !Nat.beq b k
def tU (P : Program) (h0 : aA) (step : Oper -> (Operand -> Value) -> aA -> Option (Value × aA)) (ops : Array Oper) (n : Nat) (s : dS) : Option dS :=
  match jY P h0 step ops n ops.toList 0 (s, [], []) with
  | some x => bif IW x then some x.1 else none
  | none => none
def DA : Op -> Bool
  | .load .. => true
  | _ => false
def aaG : Op -> Bool
  | .store .. => true
  | _ => false
def JE : Op -> Bool
  | .call { callee := .builtin .append, .. } => true
  | _ => false
def agV : Op -> Bool
  | .call { callee := .builtin .append, .. } => true
  | .buildSlice _ 0 _ => true
  | _ => false
def VH (l : List Oper) (o : Oper) (j : Nat) : Bool := match o.op with
  | .call { callee := .builtin .append, args, .. } => match args.toList with
    | .tmp x :: _ => (l.zipIdx).any fun (o', i) => Nat.blt i j && agV o'.op && (match o'.dst with | some d => Nat.beq d x | none => false)
    | _ => false
  | _ => false
def acZ : Op -> Bool
  | .call { callee := .value (.func _), .. } => true
  | _ => false
def ad0 (l : List Oper) (o : Oper) (j : Nat) : Bool := match o.op with
  | .call { callee := .value (.func _), args, .. } => args.toList.any fun a => match a with
    | .tmp x => (l.zipIdx).any fun (o', i) => Nat.blt i j && acZ o'.op && (match o'.dst with | some d => Nat.beq d x | none => false)
    | _ => false
  | _ => false
def BX (ops : Array Oper) : Bool :=
  let bs := D9 ops.toList []
  (ops.toList.zipIdx).any fun (o, j) => (aaG o.op && (ops.toList.zipIdx).any fun (o', i) => DA o'.op && Nat.blt i j && !(bs.getD j 0).testBit i) ||
    (JE o.op && (ops.toList.zipIdx).any fun (o', i) => DA o'.op && Nat.blt j i && !(bs.getD i 0).testBit j) ||
    (JE o.op && VH ops.toList o j && (ops.toList.zipIdx).any fun (o', i) => DA o'.op && Nat.blt i j && !(bs.getD j 0).testBit i) ||
    (ad0 ops.toList o j && (ops.toList.zipIdx).any fun (o', i) => DA o'.op && Nat.blt i j && !(bs.getD j 0).testBit i)
def bF (orc : FuncId -> List Value -> aA -> Option (Value × aA)) (rec : Rec) : Rec := fun b7 c fr h =>
  match c with
  | .skip | .label _ => some (.normal, fr, h)
  | .seq a b => match rec b7 a fr h with
    | some (.normal, fr1, h1) => rec b7 b fr1 h1
    | r => r
  | .cond x a b => match aC fr.t x with
    | .bool true => rec b7 a fr h
    | .bool false => rec b7 b fr h
    | _ => none
  | .block id body => match rec b7 body fr h with
    | some (.exit xT, fr1, h1) => bif Nat.beq xT id then some (.normal, fr1, h1) else some (.exit xT, fr1, h1)
    | r => r
  | .loop body => match rec b7 body fr h with
    | some (.normal, fr1, h1) => rec b7 (.loop body) fr1 h1
    | r => r
  | .exit id => some (.exit id, fr, h)
  | .ret => some (.ret, fr, h)
  | .region _ ops false => match p7 (sG P (eG P orc rec) (eJ rec)) ops fr.n ops.toList fr.t h with
    | some (t, h') => some (.normal, { t, n := fr.n, marks := fr.marks }, h')
    | none => none
  | .region _ ops true => match (bif BX ops then tU P h (cQ P (eG P orc rec) (eJ rec)) ops fr.n ⟨fr.t, h, [], [], 0, false⟩ else kJ (cQ P (eG P orc rec) (eJ rec)) ops fr.n ops.toList 0 ⟨fr.t, h, [], [], 0, false⟩) with
    | some s => some (.normal, { t := s.t, n := fr.n, marks := fr.marks }, s.h)
    | none => none
  | .rangeFunc g ps assign body => jN P rec b7 g ps assign body fr h
  | .scope body => rec b7 body fr h
  | .goto _ | .refuse _ => none
def dH (orc : FuncId -> List Value -> aA -> Option (Value × aA)) : Nat -> Rec
  | 0 => fun _ _ _ _ => none
  | n + 1 => bF P orc (dH orc n)
end
end Go.Fs
namespace Go.Fs
variable {P : Program}
def DB (c c' : FuncId -> List Value -> aA -> Option (Value × aA)) : Prop := ∀ f a h r, c f a h = some r -> c' f a h = some r
def I8 (r r' : Rec) : Prop := ∀ b7 c fr h x, r b7 c fr h = some x -> r' b7 c fr h = some x
def BY (s s' : Oper -> (Operand -> Value) -> aA -> Option (Value × aA)) : Prop := ∀ o ev h r, s o ev h = some r -> s' o ev h = some r
theorem wC {c c' : FuncId -> List Value -> aA -> Option (Value × aA)} {y y' : Nat -> List Value -> aA -> Option (Value × aA)} (hc : DB c c') (hy : DB y y') : BY (cQ P c y) (cQ P c' y') := by
  intro o ev h r hf
  cases dT : o.op with
  | call cl =>
    unfold cQ at hf ⊢; rw [dT] at hf ⊢
    cases wD : cl.callee with
    | builtin b => simp only [wD] at hf ⊢; exact hf
    | invoke a b => simp only [wD] at hf; cases hf
    | value f =>
      simp only [wD] at hf ⊢; split at hf
      . exact hc _ _ _ _ hf
      . exact hy _ _ _ _ hf
      cases hf
  | makeFunc fn a b => unfold cQ at hf ⊢; rw [dT] at hf ⊢; cases fn <;> exact hf
  | makeMap t r => unfold cQ at hf ⊢; rw [dT] at hf ⊢; cases r <;> exact hf
  | _ => unfold cQ at hf ⊢; rw [dT] at hf ⊢; exact hf
theorem agW {c : FuncId -> List Value -> aA -> Option (Value × aA)} {y : Nat -> List Value -> aA -> Option (Value × aA)} : BY (cQ P c y) (sG P c y) := by
  intro o ev h r hf; unfold sG; rw [hf]
theorem VI {c c' : FuncId -> List Value -> aA -> Option (Value × aA)} {y y' : Nat -> List Value -> aA -> Option (Value × aA)} {o : Oper} {ev : Operand -> Value} {h : aA} {r : Value × aA} (hf : cQ P c y o ev h = none) (hm : D8 P o ev h = some r) : cQ P c' y' o ev h = none := by
  cases dT : o.op with
  | convert s d x | load s d | slice s d x y z | indexAddr s d x =>
    unfold cQ at hf ⊢; rw [dT] at hf ⊢
    exact hf
  | _ => unfold D8 D6 D7 at hm; rw [dT] at hm; cases hm
theorem GY {c c' : FuncId -> List Value -> aA -> Option (Value × aA)} {y y' : Nat -> List Value -> aA -> Option (Value × aA)} (hc : DB c c') (hy : DB y y') : BY (sG P c y) (sG P c' y') := by
  intro o ev h r hf; unfold sG at hf ⊢
  cases hx : cQ P c y o ev h with
  | some r1 =>
    rw [hx] at hf; rw [wC hc hy _ _ _ _ hx]
    exact hf
  | none =>
    rw [hx] at hf; rw [VI hx hf]; exact hf
theorem qZ {s s' : Oper -> (Operand -> Value) -> aA -> Option (Value × aA)} (hs : BY s s') {ops : Array Oper} {n : Nat} : ∀ (l : List Oper) (t : Tr) (h : aA) (x : Tr × aA), p7 s ops n l t h = some x -> p7 s' ops n l t h = some x
  | [], t, h, x, hf => hf
  | o :: l, t, h, x, hf => by
    simp only [p7] at hf ⊢; split at hf
    . rename_i hw
      try rw [hw]
      try simp only
      split at hf
      . rename_i v h1 bR; rw [hs _ _ _ _ bR]
        try simp only
        split at hf
        . rename_i t1 hp
          try rw [hp]
          exact qZ hs l t1 h1 x hf
        cases hf
      cases hf
    . rename_i hw
      try rw [hw]
      try simp only
      split at hf
      . rename_i t1 hp
        try rw [hp]
        exact qZ hs l t1 h x hf
      cases hf
    cases hf
theorem DC {s s' : Oper -> (Operand -> Value) -> aA -> Option (Value × aA)} (hs : BY s s') {ops : Array Oper} {n : Nat} {o : Oper} {i : Nat} {d x : dS} (hf : gH s ops n o i d = some x) : gH s' ops n o i d = some x := by
  unfold gH at hf ⊢; simp only at hf ⊢; split at hf
  . rename_i hw
    first | exact hf | (rw [hw]; exact hf)
  . cases hf
  rename_i hw
  try rw [hw]
  try simp only
  split at hf
  . rename_i hc; rw [if_pos hc]; split at hf
    . rename_i v h1 bR; rw [hs _ _ _ _ bR]; exact hf
    cases hf
  rename_i hc; rw [if_neg hc]
  cases nI : (d.tail && !Nat.beq (d.mem &&& aP d.bs o) d.mem) with
  | true => rw [nI] at hf; cases hf
  | false =>
    rw [nI] at hf; simp only [cond_false] at hf ⊢; split at hf
    . rename_i v h1 bR; rw [hs _ _ _ _ bR]; exact hf
    cases hf
theorem uK {s s' : Oper -> (Operand -> Value) -> aA -> Option (Value × aA)} (hs : BY s s') {ops : Array Oper} {n : Nat} : ∀ (l : List Oper) (i : Nat) (d x : dS), kJ s ops n l i d = some x -> kJ s' ops n l i d = some x
  | [], i, d, x, hf => hf
  | o :: l, i, d, x, hf => by
    simp only [kJ] at hf ⊢; split at hf
    . rename_i d1 hd; rw [DC hs hd]; exact uK hs l (i + 1) d1 x hf
    cases hf
section
variable {s s' : Oper -> (Operand -> Value) -> aA -> Option (Value × aA)} {ops : Array Oper} {n : Nat} {h0 : aA}
theorem MQ (hs : BY s s') {o : Oper} {i : Nat} {x y : wB} (hf : nP P s ops n o i x = some y) : nP P s' ops n o i x = some y := by
  unfold nP at hf ⊢; simp only at hf ⊢
  cases nI : (x.1.tail && !Nat.beq (x.1.mem &&& aP x.1.bs o) x.1.mem) with
  | true => rw [nI] at hf; cases hf
  | false =>
    rw [nI] at hf; simp only [cond_false] at hf ⊢; split at hf
    . rename_i v h1 bR; rw [hs _ _ _ _ bR]; exact hf
    cases hf
theorem xZ (hs : BY s s') {o : Oper} {i : Nat} {x y : wB} (hf : eV P h0 s ops n o i x = some y) : eV P h0 s' ops n o i x = some y := by
  unfold eV at hf ⊢; simp only at hf ⊢; split at hf
  . rename_i hw
    first | exact hf | (rw [hw]; exact hf)
  . cases hf
  rename_i hw
  try rw [hw]
  try simp only
  split at hf
  . rename_i hc; rw [if_pos hc]; split at hf
    . rename_i v h1 bR; rw [hs _ _ _ _ bR]; exact hf
    cases hf
  rename_i hc; rw [if_neg hc]; split at hf
  . rename_i v b hq
    try rw [hq]
    exact hf
  rename_i hq
  try rw [hq]
  exact MQ hs hf
theorem xJ (hs : BY s s') : ∀ (l : List Oper) (i : Nat) (x y : wB), jY P h0 s ops n l i x = some y -> jY P h0 s' ops n l i x = some y
  | [], i, x, y, hf => hf
  | o :: l, i, x, y, hf => by
    simp only [jY] at hf ⊢; split at hf
    . rename_i d1 hd; rw [xZ hs hd]; exact xJ hs l (i + 1) d1 y hf
    cases hf
theorem PG (hs : BY s s') {d y : dS} (hf : tU P h0 s ops n d = some y) : tU P h0 s' ops n d = some y := by
  unfold tU at hf ⊢; split at hf
  . rename_i x hx; rw [xJ hs _ _ _ _ hx]; exact hf
  cases hf
end
theorem y0 {k : Bool} {r r' : Rec} (hr : I8 r r') : DB (lL P k r) (lL P k r') := by
  intro f a h x hf; unfold lL at hf ⊢; split at hf
  . rename_i fn l5
    try rw [l5]
    try simp only
    split at hf
    . rename_i c hc
      try rw [hc]
      try simp only
      cases hb : (Nat.blt 4000 fn.ntmps || Nat.blt fn.ntmps a.length) with
      | true => rw [hb] at hf; cases hf
      | false =>
        rw [hb] at hf; simp only [cond_false] at hf ⊢; split at hf
        . rename_i e fr h1 eK; rw [hr _ _ _ _ _ eK]; exact hf
        cases hf
    cases hf
  cases hf
theorem BH {r r' : Rec} (hr : I8 r r') : DB (p8 P r) (p8 P r') := y0 hr
theorem nQ {r r' : Rec} (hr : I8 r r') : DB (eJ r) (eJ r') := by
  intro l a h x hf; unfold eJ at hf ⊢; split at hf
  . rename_i jump tmps n params assign body d hg
    try rw [hg]
    try simp only
    obtain hb | hb : Nat.beq a.length params.size = true \/ Nat.beq a.length params.size = false := by cases Nat.beq a.length params.size <;> simp
    . rw [hb] at hf
      try rw [hb]
      simp only [cond_true] at hf ⊢; split at hf
      . rename_i t JF
        try rw [JF]
        try simp only
        split at hf
        . rename_i fr h1 eK; rw [hr _ _ _ _ _ eK]
          try simp only
          split at hf
          . rename_i j1 t1 n1 p1 a1 b1 d1 JG
            try rw [JG]
            try simp only
            split at hf
            . rename_i e MR h2 VJ; rw [hr _ _ _ _ _ VJ]; exact hf
            cases hf
          cases hf
        cases hf
      cases hf
    rw [hb] at hf; cases hf
  cases hf
theorem DD {r r' : Rec} (hr : I8 r r') {b7 : Option Nat} {g : Operand} {ps : Array Tmp} {assign body : Code} {fr : Fr} {h : aA} {x : Ex × Fr × aA} (hf : jN P r b7 g ps assign body fr h = some x) :
    jN P r' b7 g ps assign body fr h = some x := by
  unfold jN at hf ⊢; split at hf
  . rename_i d mark h1 hm
    try rw [hm]
    try simp only
    split at hf
    . rename_i f first captured bY
      try rw [bY]
      try simp only
      split at hf
      . rename_i v h3 eK; rw [y0 hr _ _ _ _ eK]; exact hf
      cases hf
    cases hf
  cases hf
theorem PH {orc : FuncId -> List Value -> aA -> Option (Value × aA)} {r r' : Rec} (hr : I8 r r') : I8 (bF P orc r) (bF P orc r') := by
  intro b7 c fr h x hf
  have FJ : DB (eG P orc r) (eG P orc r') := by
    intro f a h y hy; unfold eG at hy ⊢; split at hy
    . exact hy
    split at hy
    . exact hy
    exact BH hr _ _ _ _ hy
  have dT := wC (P := P) FJ (nQ hr)
  cases c with
  | skip => exact hf
  | label l => exact hf
  | exit id => exact hf
  | ret => exact hf
  | goto l => exact hf
  | refuse l => exact hf
  | scope b => exact hr _ _ _ _ _ hf
  | seq a b =>
    simp only [bF] at hf ⊢; split at hf
    . rename_i fr1 h1 h2; rw [hr _ _ _ _ _ h2]; exact hr _ _ _ _ _ hf
    rename_i cM; have h2 := hr _ _ _ _ _ hf; rw [h2]; split
    . rename_i fr1 h1 he; exact (cM fr1 h1 (by rw [hf]; exact he)).elim
    rfl
  | cond y a b =>
    simp only [bF] at hf ⊢; split at hf
    . exact hr _ _ _ _ _ hf
    . exact hr _ _ _ _ _ hf
    cases hf
  | block id b =>
    simp only [bF] at hf ⊢; split at hf
    . rename_i xT fr1 h1 h2; rw [hr _ _ _ _ _ h2]; exact hf
    rename_i cM; have h2 := hr _ _ _ _ _ hf; rw [h2]; split
    . rename_i xT fr1 h1 he; exact (cM xT fr1 h1 (by rw [hf]; exact he)).elim
    rfl
  | loop b =>
    simp only [bF] at hf ⊢; split at hf
    . rename_i fr1 h1 h2; rw [hr _ _ _ _ _ h2]; exact hr _ _ _ _ _ hf
    rename_i cM; have h2 := hr _ _ _ _ _ hf; rw [h2]; split
    . rename_i fr1 h1 he; exact (cM fr1 h1 (by rw [hf]; exact he)).elim
    rfl
  | region id ops draw =>
    cases draw with
    | false =>
      simp only [bF] at hf ⊢; split at hf
      . rename_i t h1 h2; rw [qZ (GY FJ (nQ hr)) _ _ _ _ h2]; exact hf
      cases hf
    | true =>
      simp only [bF] at hf ⊢
      cases hl : BX ops with
      | false =>
        rw [hl] at hf; simp only [cond_false] at hf ⊢; split at hf
        . rename_i s h2; rw [uK dT _ _ _ _ h2]; exact hf
        cases hf
      | true =>
        rw [hl] at hf; simp only [cond_true] at hf ⊢; split at hf
        . rename_i s h2; rw [PG dT h2]; exact hf
        cases hf
  | rangeFunc g ps assign body => exact DD hr hf
theorem BI {orc : FuncId -> List Value -> aA -> Option (Value × aA)} : ∀ m, I8 (dH P orc m) (dH P orc (m + 1))
  | 0 => fun _ _ _ _ _ hf => by cases hf
  | m + 1 => PH (BI m)
theorem I8.refl (r : Rec) : I8 r r := fun _ _ _ _ _ h => h
theorem gL {orc : FuncId -> List Value -> aA -> Option (Value × aA)} {m k : Nat} (hk : m <= k) : I8 (dH P orc m) (dH P orc k) := by
  induction k with
  | zero =>
    have : m = 0 := by omega
    subst this; exact I8.refl _
  | succ k ih =>
    by_cases h : m = k + 1
    . subst h; exact I8.refl _
    exact fun b7 c fr hp x hf => BI k _ _ _ _ _ (ih (by omega) b7 c fr hp x hf)
end Go.Fs
namespace Go.Fs
section
variable (P : Program) (orc : FuncId -> List Value -> aA -> Option (Value × aA))
def mY (m : Nat) : Oper -> (Operand -> Value) -> aA -> Option (Value × aA) := cQ P (eG P orc (dH P orc m)) (eJ (dH P orc m))
def y3 (m : Nat) : Oper -> (Operand -> Value) -> aA -> Option (Value × aA) := sG P (eG P orc (dH P orc m)) (eJ (dH P orc m))
def fH : Oper -> (Operand -> Value) -> aA -> Option (Value × aA) := cQ P (fun _ _ _ => none) (fun _ _ _ => none)
def gM (b7 : Option Nat) (c : Code) (fr : Fr) (h : aA) (Q : Ex -> Fr -> aA -> Prop) : Prop := ∃ m e lE h', dH P orc m b7 c fr h = some (e, lE, h') /\ Q e lE h'
def rC (f : FuncId) (args : List Value) (h : aA) (Q : Value -> aA -> Prop) : Prop := ∃ m v h', eG P orc (dH P orc m) f args h = some (v, h') /\ Q v h'
def RV (l : Nat) (args : List Value) (h : aA) (Q : Value -> aA -> Prop) : Prop := ∃ m v h', eJ (dH P orc m) l args h = some (v, h') /\ Q v h'
def mC (ops : Array Oper) (n : Nat) (l : List Oper) (t : Tr) (h : aA) (Q : Tr -> aA -> Prop) : Prop := ∃ m t' h', p7 (y3 P orc m) ops n l t h = some (t', h') /\ Q t' h'
def sH (ops : Array Oper) (n : Nat) (l : List Oper) (i : Nat) (s : dS) (Q : dS -> Prop) : Prop := ∃ m s', kJ (mY P orc m) ops n l i s = some s' /\ Q s'
end
variable {P : Program} {orc : FuncId -> List Value -> aA -> Option (Value × aA)} {b7 : Option Nat} {fr : Fr} {h : aA} {Q : Ex -> Fr -> aA -> Prop}
theorem DB.DE {m k : Nat} (hk : m <= k) : DB (eG P orc (dH P orc m)) (eG P orc (dH P orc k)) := by
  intro f a h y hy; unfold eG at hy ⊢; split at hy
  . exact hy
  split at hy
  . exact hy
  exact BH (gL hk) _ _ _ _ hy
theorem PI {m k : Nat} (hk : m <= k) : BY (mY P orc m) (mY P orc k) := wC (DB.DE hk) (nQ (gL hk))
theorem FK (m : Nat) : BY (fH P) (mY P orc m) := wC (fun _ _ _ _ h => by cases h) (fun _ _ _ _ h => by cases h)
theorem GZ {m k : Nat} (hk : m <= k) : BY (y3 P orc m) (y3 P orc k) := GY (DB.DE hk) (nQ (gL hk))
theorem FM {m : Nat} : BY (mY P orc m) (y3 P orc m) := agW
theorem ad1 (m : Nat) : BY (fH P) (y3 P orc m) := fun _ _ _ _ h => FM _ _ _ _ (FK m _ _ _ _ h)
theorem gM.mono {c : Code} {Q' : Ex -> Fr -> aA -> Prop} (hc : gM P orc b7 c fr h Q) (hq : ∀ e lE h', Q e lE h' -> Q' e lE h') : gM P orc b7 c fr h Q' :=
  let ⟨m, e, lE, h', h1, h2⟩ := hc; ⟨m, e, lE, h', h1, hq _ _ _ h2⟩
theorem rC.mono {f : FuncId} {args : List Value} {Q Q' : Value -> aA -> Prop} (hc : rC P orc f args h Q) (hq : ∀ v h', Q v h' -> Q' v h') : rC P orc f args h Q' :=
  let ⟨m, v, h', h1, h2⟩ := hc; ⟨m, v, h', h1, hq _ _ h2⟩
def ad2 (P : Program) (orc : FuncId -> List Value -> aA -> Option (Value × aA)) (b7 : Option Nat) (b : Code) (Q : Ex -> Fr -> aA -> Prop) : Ex -> Fr -> aA -> Prop
  | .normal, fr, h => gM P orc b7 b fr h Q
  | e, fr, h => Q e fr h
theorem gM.skip (hq : Q .normal fr h) : gM P orc b7 .skip fr h Q := ⟨1, _, _, _, rfl, hq⟩
theorem gM.label {l : Nat} (hq : Q .normal fr h) : gM P orc b7 (.label l) fr h Q := ⟨1, _, _, _, rfl, hq⟩
theorem gM.exit {id : Nat} (hq : Q (.exit id) fr h) : gM P orc b7 (.exit id) fr h Q := ⟨1, _, _, _, rfl, hq⟩
theorem gM.ret (hq : Q .ret fr h) : gM P orc b7 .ret fr h Q := ⟨1, _, _, _, rfl, hq⟩
theorem gM.scope {b : Code} (hb : gM P orc b7 b fr h Q) : gM P orc b7 (.scope b) fr h Q :=
  let ⟨m, e, lE, h', h1, h2⟩ := hb; ⟨m + 1, e, lE, h', h1, h2⟩
theorem gM.seq {a b : Code} (ha : gM P orc b7 a fr h (ad2 P orc b7 b Q)) : gM P orc b7 (.seq a b) fr h Q := by
  obtain ⟨m, e, fr1, h1, hr, hq⟩ := ha
  cases e with
  | normal =>
    obtain ⟨k, e2, MR, h2, jZ, wE⟩ := hq; refine ⟨max m k + 1, e2, MR, h2, ?_, wE⟩; show bF P orc (dH P orc (max m k)) b7 (.seq a b) fr h = _; simp only [bF, gL (Nat.le_max_left m k) _ _ _ _ _ hr]
    exact gL (Nat.le_max_right m k) _ _ _ _ _ jZ
  | exit id =>
    refine ⟨m + 1, .exit id, fr1, h1, ?_, hq⟩; show bF P orc (dH P orc m) b7 (.seq a b) fr h = _
    simp only [bF, hr]
  | ret =>
    refine ⟨m + 1, .ret, fr1, h1, ?_, hq⟩; show bF P orc (dH P orc m) b7 (.seq a b) fr h = _; simp only [bF, hr]
theorem gM.loop {b : Code} (ha : gM P orc b7 b fr h (ad2 P orc b7 (.loop b) Q)) : gM P orc b7 (.loop b) fr h Q := by
  obtain ⟨m, e, fr1, h1, hr, hq⟩ := ha
  cases e with
  | normal =>
    obtain ⟨k, e2, MR, h2, jZ, wE⟩ := hq; refine ⟨max m k + 1, e2, MR, h2, ?_, wE⟩; show bF P orc (dH P orc (max m k)) b7 (.loop b) fr h = _; simp only [bF, gL (Nat.le_max_left m k) _ _ _ _ _ hr]
    exact gL (Nat.le_max_right m k) _ _ _ _ _ jZ
  | exit id =>
    refine ⟨m + 1, .exit id, fr1, h1, ?_, hq⟩; show bF P orc (dH P orc m) b7 (.loop b) fr h = _
    simp only [bF, hr]
  | ret =>
    refine ⟨m + 1, .ret, fr1, h1, ?_, hq⟩; show bF P orc (dH P orc m) b7 (.loop b) fr h = _; simp only [bF, hr]
def inBlock (id : Nat) (Q : Ex -> Fr -> aA -> Prop) : Ex -> Fr -> aA -> Prop
  | .exit xT, fr, h => if xT = id then Q .normal fr h else Q (.exit xT) fr h
  | e, fr, h => Q e fr h
theorem gM.block {id : Nat} {b : Code} (hb : gM P orc b7 b fr h (inBlock id Q)) : gM P orc b7 (.block id b) fr h Q := by
  obtain ⟨m, e, fr1, h1, hr, hq⟩ := hb
  cases e with
  | normal =>
    refine ⟨m + 1, .normal, fr1, h1, ?_, hq⟩; show bF P orc (dH P orc m) b7 (.block id b) fr h = _
    simp only [bF, hr]
  | ret =>
    refine ⟨m + 1, .ret, fr1, h1, ?_, hq⟩; show bF P orc (dH P orc m) b7 (.block id b) fr h = _
    simp only [bF, hr]
  | exit xT =>
    simp only [inBlock] at hq; by_cases he : xT = id
    . rw [if_pos he] at hq; subst he; refine ⟨m + 1, .normal, fr1, h1, ?_, hq⟩; show bF P orc (dH P orc m) b7 (.block xT b) fr h = _; simp only [bF, hr, Nat.beq_refl, cond_true]
    rw [if_neg he] at hq; refine ⟨m + 1, .exit xT, fr1, h1, ?_, hq⟩; show bF P orc (dH P orc m) b7 (.block id b) fr h = _
    have hb : Nat.beq xT id = false := by
      cases hx : Nat.beq xT id with
      | false => rfl
      | true => exact absurd (Nat.eq_of_beq_eq_true hx) he
    simp only [bF, hr, hb, cond_false]
theorem gM.cond {x : Operand} {a b : Code} {c : Bool} (hx : aC fr.t x = .bool c) (hc : gM P orc b7 (if c then a else b) fr h Q) : gM P orc b7 (.cond x a b) fr h Q := by
  obtain ⟨m, e, fr1, h1, hr, hq⟩ := hc; refine ⟨m + 1, e, fr1, h1, ?_, hq⟩; show bF P orc (dH P orc m) b7 (.cond x a b) fr h = _
  cases c with
  | true => simp only [bF, hx]; exact hr
  | false => simp only [bF, hx]; exact hr
theorem gM.text {id : Nat} {ops : Array Oper} (ho : mC P orc ops fr.n ops.toList fr.t h fun t h' => Q .normal { t, n := fr.n, marks := fr.marks } h') : gM P orc b7 (.region id ops false) fr h Q := by
  obtain ⟨m, t, h1, hr, hq⟩ := ho; refine ⟨m + 1, .normal, _, h1, ?_, hq⟩; show bF P orc (dH P orc m) b7 (.region id ops false) fr h = _; simp only [bF]; unfold y3 at hr; rw [hr]
theorem gM.draw {id : Nat} {ops : Array Oper} (hl : BX ops = false) (ho : sH P orc ops fr.n ops.toList 0 ⟨fr.t, h, [], [], 0, false⟩ fun s => Q .normal { t := s.t, n := fr.n, marks := fr.marks } s.h) : gM P orc b7 (.region id ops true) fr h Q := by
  obtain ⟨m, s, hr, hq⟩ := ho; refine ⟨m + 1, .normal, _, _, ?_, hq⟩; show bF P orc (dH P orc m) b7 (.region id ops true) fr h = _; simp only [bF, hl, cond_false]; unfold mY at hr; rw [hr]
variable {ops : Array Oper} {n : Nat} {QO : Tr -> aA -> Prop} {QD : dS -> Prop}
theorem mC.nil {t : Tr} (hq : QO t h) : mC P orc ops n [] t h QO := ⟨0, t, h, rfl, hq⟩
theorem mC.op {o : Oper} {l : List Oper} {t t' : Tr} {v : Value} {h' : aA} (hw : bJ ops t o = some true) (hs : fH P o (aC t) h = some (v, h')) (hp : put n t o.dst v = some t') (hl : mC P orc ops n l t' h' QO) :
    mC P orc ops n (o :: l) t h QO := by
  obtain ⟨m, t2, h2, hr, hq⟩ := hl; refine ⟨m, t2, h2, ?_, hq⟩; simp only [p7, hw, ad1 m _ _ _ _ hs, hp]; exact hr
theorem mC.skip {o : Oper} {l : List Oper} {t t' : Tr} (hw : bJ ops t o = some false) (hp : put n t o.dst undef = some t') (hl : mC P orc ops n l t' h QO) : mC P orc ops n (o :: l) t h QO := by
  obtain ⟨m, t2, h2, hr, hq⟩ := hl; refine ⟨m, t2, h2, ?_, hq⟩; simp only [p7, hw, hp]; exact hr
theorem DF {o : Oper} {c : Call} {f : Operand} {g : FuncId} {a b : Array Value} {ev : Operand -> Value} (ho : o.op = .call c) (hc : c.callee = .value f) (hf : ev f = .func (.func g) a b) (m : Nat) (h : aA) :
    mY P orc m o ev h = eG P orc (dH P orc m) g (a.toList ++ c.args.toList.map ev ++ b.toList) h := by
  unfold mY cQ; rw [ho]; simp only [hc, hf]
theorem mC.call {o : Oper} {l : List Oper} {t : Tr} {c : Call} {f : Operand} {g : FuncId} {a b : Array Value} (hw : bJ ops t o = some true) (ho : o.op = .call c) (hc : c.callee = .value f) (hf : aC t f = .func (.func g) a b)
    (hl : rC P orc g (a.toList ++ c.args.toList.map (aC t) ++ b.toList) h fun v h' => ∃ t', put n t o.dst v = some t' /\ mC P orc ops n l t' h' QO) : mC P orc ops n (o :: l) t h QO := by
  obtain ⟨m, v, h1, hr, t1, hp, k, t2, h2, jZ, hq⟩ := hl; refine ⟨max m k, t2, h2, ?_, hq⟩; have h3 := DB.DE (P := P) (orc := orc) (Nat.le_max_left m k) _ _ _ _ hr; have h4 : y3 P orc (max m k) o (aC t) h = some (v, h1) := FM _ _ _ _ (by rw [DF ho hc hf]; exact h3); simp only [p7, hw, h4, hp]; exact qZ (GZ (Nat.le_max_right m k)) _ _ _ _ jZ
theorem sH.nil {i : Nat} {s : dS} (hq : QD s) : sH P orc ops n [] i s QD := ⟨0, s, rfl, hq⟩
theorem sH.op {o : Oper} {l : List Oper} {i : Nat} {s s' : dS} (hs : gH (fH P) ops n o i s = some s') (hl : sH P orc ops n l (i + 1) s' QD) : sH P orc ops n (o :: l) i s QD := by
  obtain ⟨m, s2, hr, hq⟩ := hl; refine ⟨m, s2, ?_, hq⟩; simp only [kJ, DC (FK m) hs]; exact hr
def p9 (o : Oper) (s : dS) : aA := { next := s.h.next, low := s.h.next, aB := bif Nat.beq (s.mem &&& aP s.bs o) s.mem then s.h.aB else mask (aP s.bs o) s.segs s.h.aB }
def rW (o : Oper) (i : Nat) (s : dS) (t : Tr) (h' : aA) : dS :=
  bif Nat.ble s.h.next h'.low then { t, h := { next := h'.next, low := s.h.low, aB := bH s.h.next h'.next h'.aB ++ s.h.aB }, bs := s.bs ++ [aP s.bs o], segs := (i, s.h.next, h'.next) :: s.segs, mem := s.mem ||| 2 ^ i, tail := s.tail }
  else { t, h := { next := h'.next, low := min s.h.low h'.low, aB := h'.aB }, bs := s.bs ++ [aP s.bs o], segs := (i, s.h.next, h'.next) :: s.segs, mem := s.mem ||| 2 ^ i, tail := true }
theorem sH.call {o : Oper} {l : List Oper} {i : Nat} {s : dS} {c : Call} {f : Operand} {g : FuncId} {a b : Array Value} (hw : bJ ops s.t o = some true) (ho : o.op = .call c) (hc : c.callee = .value f) (hf : aC s.t f = .func (.func g) a b)
    (nI : (s.tail && !Nat.beq (s.mem &&& aP s.bs o) s.mem) = false)
    (hl : rC P orc g (a.toList ++ c.args.toList.map (aC s.t) ++ b.toList) (p9 o s) fun v h' => Nat.blt h'.next s.h.next = false /\ (Nat.ble s.h.next h'.low || Nat.beq (s.mem &&& aP s.bs o) s.mem) = true /\
      ∃ t', put n s.t o.dst v = some t' /\ sH P orc ops n l (i + 1) (rW o i s t' h') QD) : sH P orc ops n (o :: l) i s QD := by
  obtain ⟨m, v, h1, hr, j6, uL, t1, hp, k, s2, jZ, hq⟩ := hl; refine ⟨max m k, s2, ?_, hq⟩; have h3 := DB.DE (P := P) (orc := orc) (Nat.le_max_left m k) _ _ _ _ hr
  have wF : calm o.op = false := by rw [ho]; obtain ⟨cl, as_, r3⟩ := c; obtain rfl : cl = .value f := hc; rfl
  have hd : gH (mY P orc (max m k)) ops n o i s = some (rW o i s t1 h1) := by
    unfold gH; simp only [hw, wF, Bool.false_eq_true, if_false, nI, cond_false]; rw [DF ho hc hf]; unfold p9 at h3; rw [h3]; simp only [j6, cond_false, hp]; unfold rW
    cases hx : Nat.ble s.h.next h1.low with
    | true => rfl
    | false =>
      rw [hx] at uL; simp only [Bool.false_or] at uL; rw [uL]; rfl
  simp only [kJ, hd]; exact uK (PI (Nat.le_max_right m k)) _ _ _ _ jZ
theorem rC.PJ {f : FuncId} {args : List Value} {v : Value} {h' : aA} {QF : Value -> aA -> Prop} (ho : orc f args h = some (v, h')) (hq : QF v h') : rC P orc f args h QF :=
  ⟨0, v, h', by simp only [eG, ho], hq⟩
def leftOf (h h2 : aA) (v : Value) : aA := bif af v && Nat.ble h.next h2.low then h else { next := h2.next, low := min h.low h2.low, aB := h2.aB }
theorem RW {f : FuncId} {args : List Value} {fn : Func} {c : Code} (l5 : P.funcs[f]? = some fn) (hc : fn.body = some c) : FI P f args h = none := by
  unfold FI; simp [l5, hc]
theorem rC.ext {f : FuncId} {args : List Value} {fn : Func} {e : Array Value -> Sem Value} {v : Value} {QF : Value -> aA -> Prop} (ho : orc f args h = none) (l5 : P.funcs[f]? = some fn) (hb : (fn.body.isNone && !(fn.name == "runtime.NumGoroutine")) = true) (h1 : (Extern.findNext fn).isNone = true) (h2 : Extern.find fn = some e)
    (ha : args.all af = true) (hv : cL P (e args.toArray) = some v) (hq : QF v h) : rC P orc f args h QF := by
  refine ⟨0, v, h, ?_, hq⟩; have nR := Option.isNone_iff_eq_none.1 h1
  have hx : FI P f args h = some (v, h) := by
    unfold FI; simp only [l5, hb, cond_true, nR, h2, ha, hv]; rfl
  simp only [eG, ho, hx]
theorem rC.enter {f : FuncId} {args : List Value} {fn : Func} {c : Code} {QF : Value -> aA -> Prop} (l5 : P.funcs[f]? = some fn) (hc : fn.body = some c) (ho : orc f args h = none) (hn : (Nat.blt 4000 fn.ntmps || Nat.blt fn.ntmps args.length) = false)
    (hb : gM P orc none c ⟨kZ .leaf 0 args, fn.ntmps, []⟩ { next := h.next, low := h.next, aB := h.aB } fun e fr h1 =>
      e.kB = true /\ ∃ h2 vs, l4 fr.marks h1 = some h2 /\ jX P fr.t h2 fn.results.toList = some vs /\ QF (iM vs) (leftOf h h2 (iM vs))) : rC P orc f args h QF := by
  obtain ⟨m, e, fr, h1, hr, hg, h2, vs, hd, y4, hq⟩ := hb; refine ⟨m, iM vs, leftOf h h2 (iM vs), ?_, hq⟩; unfold eG; rw [ho, RW l5 hc]; unfold p8 lL; simp only [l5, hc, hn, cond_false, hr, hg, cond_true, hd, y4, Bool.not_false, Bool.true_and]; unfold leftOf; cases hx : (af (iM vs) && Nat.ble h.next h2.low) <;> rfl
end Go.Fs
namespace Go.Fs
open Go.RowKit (Below)
structure Loc where
  block : Nat
  off : Nat
  total : Nat
  BZ : Nat
  fz : Nat × Nat
  hfz : fz.1 = fz.2 \/ total <= fz.1
abbrev Loc.clean (b o t e : Nat) : Loc := ⟨b, o, t, e, (0, 0), .inl rfl⟩
abbrev Ren := Nat -> Loc
def Loc.at (l : Loc) (o : Nat) : Addr := ⟨l.block, l.off + o, none⟩
theorem Loc.tV (l : Loc) (o n : Nat) : (l.at o).add n = l.at (o + n) := by
  unfold Addr.add Loc.at; by_cases h : n = 0
  . subst h; simp
  simp [h, Nat.add_assoc]
inductive VR (ρ : Ren) (S : Nat -> Prop) : Value -> Value -> Prop
  | lit {v : Value} (h : eF v = true) : VR ρ S v v
  | gY (v : Value) : VR ρ S gY v
  | nan (k : FloatKind) (b : Nat) (hb : (k.decode b).isNaN = true) : VR ρ S (jM k) (.float k b)
  | ptr (b o : Nat) (hs : S b) : VR ρ S (.pointer (some ⟨b, o, none⟩)) (.pointer (some ((ρ b).at o)))
  | slice (b o n m c : Nat) (A : Addr) (hn : n <= c) (hm : m = 1 -> c = n) (h0 : b = 0 -> n = 0)
      (hb : b ≠ 0 -> S b /\ A = (ρ b).at o /\ (m = 0 -> o + c * (ρ b).BZ = (ρ b).total)) : VR ρ S (.slice (some ⟨b, o, none⟩) n m) (.slice (some A) n c)
  | map (b : Nat) (hs : S b) : VR ρ S (.map (some b)) (.map (some (ρ b).block))
  | agg (cs cs' : Array Value) (hl : cs.size = cs'.size) (h : ∀ i, i < cs.size -> VR ρ S (cs.toList.getD i undef) (cs'.toList.getD i undef)) : VR ρ S (.agg cs) (.agg cs')
  | tuple (cs cs' : Array Value) (hl : cs.size = cs'.size) (h : ∀ i, i < cs.size -> VR ρ S (cs.toList.getD i undef) (cs'.toList.getD i undef)) : VR ρ S (.tuple cs) (.tuple cs')
  | func (f : FuncId) (a a' c c' : Array Value) (ha : a.size = a'.size) (hA : ∀ i, i < a.size -> VR ρ S (a.toList.getD i undef) (a'.toList.getD i undef))
      (hc : c.size = c'.size) (hC : ∀ i, i < c.size -> VR ρ S (c.toList.getD i undef) (c'.toList.getD i undef)) : VR ρ S (.func (.func f) a c) (.func (.func f) a' c')
  | yield (l : Nat) (hs : S l) : VR ρ S (.func (.yield l) #[] #[]) (.func (.yield (ρ l).block) #[] #[])
variable {ρ bT : Ren} {S S' : Nat -> Prop}
theorem VR.mono {v v' : Value} (h : VR ρ S v v') (hs : ∀ b, S b -> S' b /\ bT b = ρ b) : VR bT S' v v' := by
  induction h with
  | lit h => exact .lit h
  | gY v => exact .gY v
  | nan k b hb => exact .nan k b hb
  | ptr b o h => have := hs b h; rw [<- this.2]; exact .ptr b o this.1
  | slice b o n m c A hn hm h0 hb =>
    refine .slice b o n m c A hn hm h0 fun iY => ?_; obtain ⟨h1, h2, h3⟩ := hb iY; have := hs b h1
    rw [this.2]; exact ⟨this.1, h2, h3⟩
  | map b h => have := hs b h; rw [<- this.2]; exact .map b this.1
  | agg cs cs' hl _ ih => exact .agg cs cs' hl ih
  | tuple cs cs' hl _ ih => exact .tuple cs cs' hl ih
  | func f a a' c c' ha _ hc _ ihA ihC => exact .func f a a' c c' ha ihA hc ihC
  | yield l h => have := hs l h; rw [<- this.2]; exact .yield l this.1
def LR (ρ : Ren) (S : Nat -> Prop) (cs cs' : List Value) : Prop := cs.length = cs'.length /\ ∀ i, i < cs.length -> VR ρ S (cs.getD i undef) (cs'.getD i undef)
theorem VR.RX {cs cs' : Array Value} (h : LR ρ S cs.toList cs'.toList) : VR ρ S (.agg cs) (.agg cs') := .agg cs cs' (by simpa using h.1) (by simpa using h.2)
theorem VR.tuple' {cs cs' : Array Value} (h : LR ρ S cs.toList cs'.toList) : VR ρ S (.tuple cs) (.tuple cs') := .tuple cs cs' (by simpa using h.1) (by simpa using h.2)
theorem VR.undef : VR ρ S undef undef := .tuple #[] #[] rfl (fun i h => absurd h (by simp))
theorem LR.mono {cs cs' : List Value} (h : LR ρ S cs cs') (hs : ∀ b, S b -> S' b /\ bT b = ρ b) : LR bT S' cs cs' := ⟨h.1, fun i hi => (h.2 i hi).mono hs⟩
theorem LR.nil : LR ρ S [] [] := ⟨rfl, fun i h => absurd h (by simp)⟩
theorem LR.getD {cs cs' : List Value} (h : LR ρ S cs cs') (i : Nat) : VR ρ S (cs.getD i undef) (cs'.getD i undef) := by
  by_cases hi : i < cs.length
  . exact h.2 i hi
  have h2 := h.1; rw [List.getD_eq_getElem?_getD, List.getD_eq_getElem?_getD, List.getElem?_eq_none (by omega), List.getElem?_eq_none (by omega)]; exact VR.undef
theorem LR.get? {cs cs' : List Value} (h : LR ρ S cs cs') {i : Nat} {v : Value} (hv : cs[i]? = some v) : ∃ v', cs'[i]? = some v' /\ VR ρ S v v' := by
  obtain ⟨hi, rfl⟩ := List.getElem?_eq_some_iff.1 hv; have h1 := h.2 i hi
  have h2 : i < cs'.length := by have := h.1; omega
  exact ⟨cs'[i], List.getElem?_eq_getElem h2, by simpa [List.getD, hi, h2] using h1⟩
theorem LR.of_get? {cs cs' : List Value} (hl : cs.length = cs'.length) (h : ∀ (i : Nat) (v v' : Value), cs[i]? = some v -> cs'[i]? = some v' -> VR ρ S v v') : LR ρ S cs cs' := by
  refine ⟨hl, fun i hi => ?_⟩
  have dI : i < cs'.length := by omega
  have := h i cs[i] cs'[i] (List.getElem?_eq_getElem hi) (List.getElem?_eq_getElem dI); simpa [List.getD, hi, dI] using this
theorem LR.oR {cs cs' : List Value} (h : LR ρ S cs cs') {i : Nat} {v v' : Value} (hv : cs[i]? = some v) (nJ : cs'[i]? = some v') : VR ρ S v v' := by
  obtain ⟨v2, h2, hr⟩ := h.get? hv; rw [h2] at nJ; injection nJ with e; subst e; exact hr
theorem LR.cons {v v' : Value} {cs cs' : List Value} (h : VR ρ S v v') (hc : LR ρ S cs cs') : LR ρ S (v :: cs) (v' :: cs') := by
  refine LR.of_get? (by simp [hc.1]) fun i a a' ha mI => ?_
  cases i with
  | zero => simp at ha mI; subst ha mI; exact h
  | succ i => simp at ha mI; exact hc.oR ha mI
theorem LR.append {a a' b b' : List Value} (h : LR ρ S a a') (k : LR ρ S b b') : LR ρ S (a ++ b) (a' ++ b') := by
  refine LR.of_get? (by simp [h.1, k.1]) fun i v v' hv nJ => ?_; rw [List.getElem?_append] at hv nJ; rw [<- h.1] at nJ; split at hv
  . rename_i hi; rw [if_pos hi] at nJ; exact h.oR hv nJ
  rename_i hi; rw [if_neg hi] at nJ; exact k.oR hv nJ
theorem LR.take {a a' : List Value} (h : LR ρ S a a') (n : Nat) : LR ρ S (a.take n) (a'.take n) := by
  refine LR.of_get? (by simp [h.1]) fun i v v' hv nJ => ?_; rw [List.getElem?_take] at hv nJ; split at hv
  . rename_i hi; rw [if_pos hi] at nJ; exact h.oR hv nJ
  cases hv
theorem LR.drop {a a' : List Value} (h : LR ρ S a a') (n : Nat) : LR ρ S (a.drop n) (a'.drop n) := by
  refine LR.of_get? (by simp [h.1]) fun i v v' hv nJ => ?_; rw [List.getElem?_drop] at hv nJ; exact h.oR hv nJ
theorem LR.set {a a' : List Value} (h : LR ρ S a a') (i : Nat) {v v' : Value} (hv : VR ρ S v v') : LR ρ S (a.set i v) (a'.set i v') := by
  refine LR.of_get? (by simp [h.1]) fun j u u' hu FN => ?_; rw [List.getElem?_set] at hu FN; split at hu
  . rename_i e; rw [if_pos e] at FN; split at hu
    . split at FN
      . injection hu with hu; injection FN with FN; subst hu FN; exact hv
      cases FN
    cases hu
  rename_i e; rw [if_neg e] at FN; exact h.oR hu FN
theorem LR.map {α : Type} (f g : α -> Value) (l : List α) (h : ∀ x ∈ l, VR ρ S (f x) (g x)) : LR ρ S (l.map f) (l.map g) := by
  refine LR.of_get? (by simp) fun i a a' ha mI => ?_; rw [List.getElem?_map] at ha mI
  cases hx : l[i]? with
  | none => rw [hx] at ha; cases ha
  | some x =>
    rw [hx] at ha mI; simp at ha mI; subst ha mI; exact h x (List.mem_of_getElem? hx)
theorem VR.iA {v v' : Value} (h : VR ρ S v v') (ha : eF v = true) : v' = v := by
  cases h with
  | lit _ => rfl
  | gY => simp [eF, Fs.gY] at ha
  | nan k b hb => simp [eF, jM] at ha
  | slice b o n m c A hn hm h0 hb => simp [eF] at ha
  | _ => simp [eF] at ha
theorem y5 {cs cs' : List Value} (hl : cs.length = cs'.length) (h : ∀ i, i < cs.length -> cs'.getD i Go.undef = cs.getD i Go.undef) : cs' = cs := by
  refine List.ext_getElem (by omega) fun i h1 h2 => ?_; have := h i h2; simpa [List.getD, h1, h2] using this
theorem oS {cs : List Value} {i : Nat} (hi : i < cs.length) : cs.getD i Go.undef ∈ cs := by
  simp [List.getD, hi]
theorem VR.JH {v v' : Value} (h : VR ρ S v v') (ha : pU v = true) : v' = v := by
  cases h with
  | lit _ => rfl
  | gY => simp [pU, eF, Fs.gY] at ha
  | nan k b hb => simp [pU, eF, jM] at ha
  | agg cs cs' hl hv =>
    simp only [pU, List.all_eq_true] at ha; have : cs'.toList = cs.toList := y5 (by simpa using hl) fun i hi => (hv i (by simpa using hi)).iA (ha _ (oS hi))
    rw [show cs' = cs from Array.toList_inj.1 this]
  | _ => simp [pU, eF] at ha
theorem VR.dR {v v' : Value} (h : VR ρ S v v') (ha : af v = true) : v' = v := by
  cases h with
  | lit _ => rfl
  | gY => simp [af, pU, eF, Fs.gY] at ha
  | nan k b hb => simp [af, pU, eF, jM] at ha
  | agg cs cs' hl hv => exact VR.JH (.agg cs cs' hl hv) ha
  | tuple cs cs' hl hv =>
    simp only [af, List.all_eq_true] at ha; have : cs'.toList = cs.toList := y5 (by simpa using hl) fun i hi => (hv i (by simpa using hi)).JH (ha _ (oS hi))
    rw [show cs' = cs from Array.toList_inj.1 this]
  | _ => simp [af, pU, eF] at ha
theorem VR.Z4 {v : Value} (h : pU v = true) : VR ρ S v v := by
  cases v with
  | agg cs =>
    simp only [pU, List.all_eq_true] at h
    exact .agg cs cs rfl fun i hi => .lit (h _ (oS (by simpa using hi)))
  | _ => exact .lit h
theorem VR.mJ {v : Value} (h : af v = true) : VR ρ S v v := by
  cases v with
  | tuple cs =>
    simp only [af, List.all_eq_true] at h
    exact .tuple cs cs rfl fun i hi => .Z4 (h _ (oS (by simpa using hi)))
  | _ => exact .Z4 h
theorem LR.zQ {l : List Value} (h : ∀ v ∈ l, eF v = true) : LR ρ S l l := ⟨rfl, fun i hi => .lit (h _ (oS hi))⟩
theorem LR.dR {l l' : List Value} (h : LR ρ S l l') (ha : l.all af = true) : l' = l :=
  y5 h.1 fun i hi => (h.2 i hi).dR (List.all_eq_true.1 ha _ (oS hi))
theorem VR.aU {v v' : Value} (h : VR ρ S v v') (hv : Fs.aU v = true) : Fs.aU v' = true := by
  cases h <;> simp_all [Fs.aU, Fs.gY, jM]
theorem LR.aU {l l' : List Value} (h : LR ρ S l l') (ha : l.all Fs.aU = true) : ∀ v ∈ l', Fs.aU v = true := by
  intro v hv; obtain ⟨i, hi, rfl⟩ := List.mem_iff_getElem.1 hv
  have h1 : i < l.length := by have := h.1; omega
  have h2 := h.2 i h1; have h3 := h2.aU (List.all_eq_true.1 ha _ (oS h1)); simpa [List.getD, hi] using h3
theorem VR.cells {v v' : Value} (h : VR ρ S v v') (hv : v.cells.toList.all Fs.aU = true) : LR ρ S v.cells.toList v'.cells.toList := by
  cases h with
  | agg cs cs' hl hc => exact ⟨by simpa [Value.cells] using hl, by simpa [Value.cells] using hc⟩
  | lit h => exact ⟨rfl, fun i hi => by
      have : ∀ v : Value, eF v = true -> v.cells = #[v] := by intro v; cases v <;> simp [eF, Value.cells]
      rw [this _ h] at hi ⊢
      simp at hi; subst hi; exact .lit h⟩
  | gY v => simp [Value.cells, Fs.gY, Fs.aU] at hv
  | nan k b hb => exact LR.cons (.nan k b hb) LR.nil
  | tuple => simp [Value.cells, Fs.aU] at hv
  | ptr b o hs => exact LR.cons (.ptr b o hs) LR.nil
  | slice b o n m c A hn hm h0 hb => exact LR.cons (.slice b o n m c A hn hm h0 hb) LR.nil
  | map b hs => exact LR.cons (.map b hs) LR.nil
  | func f a a' c c' ha hA hc hC => exact LR.cons (.func f a a' c c' ha hA hc hC) LR.nil
  | yield l hs => exact LR.cons (.yield l hs) LR.nil
theorem eD {a b : Nat} (h : a ≠ b) : Nat.beq a b = false := by
  cases hb : Nat.beq a b with
  | false => rfl
  | true => exact absurd (Nat.eq_of_beq_eq_true hb) h
theorem ad3 (a : Nat) : Nat.beq a a = true := Nat.beq_refl a
theorem gA {a b : Nat} (h : Nat.beq a b = false) : a ≠ b := fun e => by
  subst e; rw [ad3] at h; cases h
theorem Tr.cZ : ∀ (f : Nat) (t : Tr) (i : Nat) (v : Value) (j : Nat), i + 1 < 2 ^ f -> (t.set f i v).get j = if j = i then v else t.get j
  | 0, t, i, v, j, h => by simp at h
  | f + 1, .leaf, i, v, j, h => by
    rw [Nat.pow_succ] at h
    cases i with
    | zero => cases j <;> simp [Tr.set, Tr.get]
    | succ k =>
      have hk : k / 2 + 1 < 2 ^ f := by omega
      cases j with
      | zero =>
        simp only [Tr.set]
        cases hb : Nat.beq (k % 2) 0 <;> simp [Tr.get]
      | succ m =>
        simp only [Tr.set]; cases hb : Nat.beq (k % 2) 0 <;> simp only [cond_true, cond_false, Tr.get] <;> cases hc : Nat.beq (m % 2) 0 <;> simp only [cond_true, cond_false, Tr.cZ f _ _ _ _ hk, Tr.get]
        all_goals first
          | (have h1 : ¬ k % 2 = 0 := gA hb
             have h2 : m % 2 = 0 := Nat.eq_of_beq_eq_true hc
             rw [if_neg (by omega)])
          | (have h1 : k % 2 = 0 := Nat.eq_of_beq_eq_true hb
             have h2 : ¬ m % 2 = 0 := gA hc
             rw [if_neg (by omega)])
          | (have h1 : ¬ k % 2 = 0 := gA hb
             have h2 : ¬ m % 2 = 0 := gA hc; by_cases e : m / 2 = k / 2
             . rw [if_pos e, if_pos (by omega)]
             rw [if_neg e, if_neg (by omega)])
          | (have h1 : k % 2 = 0 := Nat.eq_of_beq_eq_true hb
             have h2 : m % 2 = 0 := Nat.eq_of_beq_eq_true hc; by_cases e : m / 2 = k / 2
             . rw [if_pos e, if_pos (by omega)]
             rw [if_neg e, if_neg (by omega)])
  | f + 1, .node u l r, i, v, j, h => by
    rw [Nat.pow_succ] at h
    cases i with
    | zero => cases j <;> simp [Tr.set, Tr.get]
    | succ k =>
      have hk : k / 2 + 1 < 2 ^ f := by omega
      cases j with
      | zero =>
        simp only [Tr.set]
        cases hb : Nat.beq (k % 2) 0 <;> simp [Tr.get]
      | succ m =>
        simp only [Tr.set]; cases hb : Nat.beq (k % 2) 0 <;> simp only [cond_true, cond_false, Tr.get] <;> cases hc : Nat.beq (m % 2) 0 <;> simp only [cond_true, cond_false, Tr.cZ f _ _ _ _ hk, Tr.get]
        all_goals first
          | (have h1 : ¬ k % 2 = 0 := gA hb
             have h2 : m % 2 = 0 := Nat.eq_of_beq_eq_true hc
             rw [if_neg (by omega)])
          | (have h1 : k % 2 = 0 := Nat.eq_of_beq_eq_true hb
             have h2 : ¬ m % 2 = 0 := gA hc
             rw [if_neg (by omega)])
          | (have h1 : ¬ k % 2 = 0 := gA hb
             have h2 : ¬ m % 2 = 0 := gA hc; by_cases e : m / 2 = k / 2
             . rw [if_pos e, if_pos (by omega)]
             rw [if_neg e, if_neg (by omega)])
          | (have h1 : k % 2 = 0 := Nat.eq_of_beq_eq_true hb
             have h2 : m % 2 = 0 := Nat.eq_of_beq_eq_true hc; by_cases e : m / 2 = k / 2
             . rw [if_pos e, if_pos (by omega)]
             rw [if_neg e, if_neg (by omega)])
def lF (ρ : Ren) (S : Nat -> Prop) (t : Tr) (n : Nat) (tmps : Array Value) : Prop := tmps.size = n /\ n <= 4000 /\ ∀ i, VR ρ S (t.get i) (tmps.toList.getD i Go.undef)
theorem lF.mono {t : Tr} {n : Nat} {tmps : Array Value} (h : lF ρ S t n tmps) (hs : ∀ b, S b -> S' b /\ bT b = ρ b) : lF bT S' t n tmps := ⟨h.1, h.2.1, fun i => (h.2.2 i).mono hs⟩
theorem lF.put {t t' : Tr} {n : Nat} {tmps : Array Value} (h : lF ρ S t n tmps) {dst : Option Tmp} {v v' : Value} (hp : put n t dst v = some t') (hv : VR ρ S v v') (d : List Deferred) :
    lF ρ S t' n (({ tmps := tmps, defers := d } : Act).put dst v').tmps := by
  unfold Fs.put at hp
  cases dst with
  | none => simp only [Option.some.injEq] at hp; subst hp; exact h
  | some i =>
    simp only at hp
    cases hb : Nat.blt i n with
    | false => rw [hb] at hp; cases hp
    | true =>
      rw [hb] at hp; simp only [cond_true, Option.some.injEq] at hp; subst hp; have bL : Nat.succ i <= n := Nat.le_of_ble_eq_true hb; have h4 := h.2.1; refine ⟨by simp [Act.put, h.1], h.2.1, fun j => ?_⟩; rw [Tr.cZ depth t i v j (by have : 2 ^ depth = 8192 := rfl; rw [this]; exact Nat.lt_of_le_of_lt (Nat.le_trans bL h4) (by decide))]; simp only [Act.put, Array.toList_setIfInBounds, List.getD_eq_getElem?_getD, List.getElem?_set]; by_cases e : j = i
      . subst e; rw [if_pos rfl, if_pos rfl, if_pos (by simpa [h.1] using (show j < n from bL))]; exact hv
      rw [if_neg e, if_neg (Ne.symm e)]; have := h.2.2 j
      rwa [List.getD_eq_getElem?_getD] at this
theorem lF.eval {t : Tr} {n : Nat} {tmps : Array Value} (h : lF ρ S t n tmps) (d : List Deferred) (x : Operand) : VR ρ S (aC t x) (({ tmps := tmps, defers := d } : Act).eval x) := by
  cases x with
  | tmp i =>
    have := h.2.2 i
    simpa [aC, Act.eval, Array.getD_eq_getD_getElem?, List.getD_eq_getElem?_getD] using this
  | const v =>
    simp only [aC, Act.eval]; by_cases hv : af v = true
    . rw [if_pos hv]; exact .mJ hv
    rw [if_neg hv]; exact .gY v
  | global g => exact .gY _
  | func f => exact .func f _ _ _ _ rfl (fun i h => absurd h (by simp)) rfl (fun i h => absurd h (by simp))
theorem JI {l : List (Nat × bB)} {i : Nat} {o o' : bB} (h : look l i = some o) : look (RR l i o') i = some o' := by
  induction l with
  | nil => simp [look] at h
  | cons p r ih =>
    obtain ⟨k, x⟩ := p; by_cases hk : k = i
    . subst hk; simp [RR, look]
    have hb : Nat.beq k i = false := eD hk; simp only [RR, look, hb, cond_false] at h ⊢; exact ih h
theorem I9 {l : List (Nat × bB)} {i j : Nat} {o' : bB} (hj : j ≠ i) : look (RR l i o') j = look l j := by
  induction l with
  | nil => rfl
  | cons p r ih =>
    obtain ⟨k, x⟩ := p; by_cases hk : k = i
    . subst hk; have hb : Nat.beq k j = false := eD (Ne.symm hj); simp [RR, look, hb]
    have hb : Nat.beq k i = false := eD hk; simp only [RR, look, hb, cond_false, ih]
theorem JJ {l : List (Nat × bB)} {i : Nat} : look (del l i) i = none := by
  induction l with
  | nil => rfl
  | cons p r ih =>
    obtain ⟨k, x⟩ := p; by_cases hk : k = i
    . subst hk; simp [del, ih]
    have hb : Nat.beq k i = false := eD hk; simp [del, hb, look, ih]
theorem IA {l : List (Nat × bB)} {i j : Nat} (hj : j ≠ i) : look (del l i) j = look l j := by
  induction l with
  | nil => rfl
  | cons p r ih =>
    obtain ⟨k, x⟩ := p; by_cases hk : k = i
    . subst hk; have hb : Nat.beq k j = false := eD (Ne.symm hj); simp [del, look, hb, ih]
    have hb : Nat.beq k i = false := eD hk; simp only [del, look, hb, cond_false, ih]
theorem aA.cZ {h : aA} {i j : Nat} {o o' : bB} (hi : h.get i = some o) : (h.set i o').get j = if j = i then some o' else h.get j := by
  by_cases hj : j = i
  . subst hj; rw [if_pos rfl]; exact JI hi
  rw [if_neg hj]; exact I9 hj
theorem aA.cP {h : aA} {i j : Nat} : (h.drop i).get j = if j = i then none else h.get j := by
  by_cases hj : j = i
  . subst hj; rw [if_pos rfl]; exact JJ
  rw [if_neg hj]; exact IA hj
theorem aA.bN {h : aA} {j : Nat} {o : bB} : (h.push o).get j = if j = h.next then some o else h.get j := by
  show look ((h.next, o) :: h.aB) j = _; by_cases hj : j = h.next
  . subst hj; simp [look]
  have hb : Nat.beq h.next j = false := eD (Ne.symm hj); simp [look, hb, hj, aA.get]
def iG : bB -> Bool
  | .row _ _ own _ => own
  | _ => true
section
variable (P : Program) (ρ : Ren) (S : Nat -> Prop)
def agX (e : TypeId) (l : Loc) : Prop := ∀ (g : Nat) gl, P.globals[g]? = some gl -> gl.type = e -> l.block = g /\ l.off = 0
def kV (l : Loc) (w : World) : bB -> Prop
  | .row e cs true more => ∃ cur : List Value, w.heap[l.block]? = some (.cells cur.toArray e l.fz) /\ l.off = 0 /\ l.total = cur.length /\ l.BZ = P.cellsOf e /\ cs.length <= cur.length /\
      (more = false -> cs.length = cur.length) /\ ∀ i, i < cs.length -> VR ρ S (cs.getD i undef) (cur.getD i undef)
  | .row e cs false more => l.BZ = P.cellsOf e /\ (∀ i, i < cs.length -> ∃ v, w.cell? (l.at i) = some v /\ VR ρ S (cs.getD i undef) v) /\ (more = true -> agX P e l)
  | .nO es clock => ∃ eL : List MapEntry, w.heap[l.block]? = some (.map eL.toArray clock) /\ es.length = eL.length /\
      ∀ (i : Nat) (e e' : MapEntry), es[i]? = some e -> eL[i]? = some e' -> e'.key = e.key /\ af e.key = true /\ e'.born = e.born /\ VR ρ S e.val e'.val
  | .iter s pos => w.heap[l.block]? = some (.stringIter s pos) /\ l.off = 0
  | .dL st jump tmps n params assign body d => S d /\ ∃ fn j7, w.heap[l.block]? = some (.loop ⟨st, jump, fn, j7, params, assign, body, (ρ d).block⟩) /\ lF ρ S tmps n j7 /\ (codeOk assign && codeOk body) = true
  | .iR => w.heap[l.block]? = some (.deferred (some []))
abbrev wz (w : World) : World := { w with drawn := 0 }
theorem RY {B : Nat} {w w' : World} (h : Below B (wz w) w') : Below B w w' := ⟨h.os, h.tape, h.output, h.size, h.block⟩
theorem JK {B : Nat} {w w' : World} (h : Below B w w') : Below B (wz w) w' := ⟨h.os, h.tape, h.output, h.size, h.block⟩
structure HR (B : Nat) (w0 : World) (h : aA) (w : World) : Prop where
  aB : ∀ i o, h.get i = some o -> S i /\ kV P ρ S (ρ i) w o
  inj : ∀ i j oi oj, h.get i = some oi -> h.get j = some oj -> iG oi = true -> iG oj = true -> (ρ i).block = (ρ j).block -> i = j
  base : ∀ i o, h.get i = some o -> iG o = true -> B <= (ρ i).block
  ro : ∀ i o, h.get i = some o -> iG o = false -> (ρ i).block < B
  ids : ∀ b, S b -> b < h.next /\ b ≠ 0
  pos : 0 < h.next
  below : Below B w0 w
  drawn : w0.drawn <= w.drawn
  size : B <= w.heap.size
end
structure Frame (ρ : Ren) (h : aA) (w w' : World) : Prop where
  os : w'.os = w.os
  tape : w'.tape = w.tape
  output : w'.output = w.output
  size : w.heap.size <= w'.heap.size
  block : ∀ k, k < w.heap.size -> (∀ i o, h.get i = some o -> iG o = true -> (ρ i).block ≠ k) -> w'.heap[k]? = w.heap[k]?
def Ext (S : Nat -> Prop) (h h' : aA) (b : Nat) : Prop := S b \/ (h.next <= b /\ b < h'.next)
structure aZ (P : Program) (B : Nat) (w0 : World) (ρ bT : Ren) (S : Nat -> Prop) (h h' : aA) (w w' : World) : Prop where
  agree : ∀ b, S b -> bT b = ρ b
  next : h.next <= h'.next
  hr : HR P bT (Ext S h h') B w0 h' w'
  frame : Frame ρ h w w'
  low : h'.low <= h.low
  aW : ∀ i, i < h.next -> i < h'.low -> h'.get i = h.get i
  old : ∀ i o, h'.get i = some o -> i < h.next -> ∃ o', h.get i = some o' /\ iG o' = iG o
  fresh : ∀ i o, h'.get i = some o -> h.next <= i -> iG o = true /\ (w.heap.size <= (bT i).block \/ ∃ j oj, h.get j = some oj /\ iG oj = true /\ (ρ j).block = (bT i).block /\ h'.low <= j /\ j < h.next)
variable {P : Program} {B : Nat} {w0 w w' w1 w2 : World} {h h' h1 h2 : aA}
theorem kV.mono {l : Loc} {o : bB} (hr : kV P ρ S l w o) (hs : ∀ b, S b -> S' b /\ bT b = ρ b) : kV P bT S' l w o := by
  match o, hr with
  | .row e cs true more, ⟨cur, h1, h2, h3, h4, h5, h6, h7⟩ => exact ⟨cur, h1, h2, h3, h4, h5, h6, fun i hi => (h7 i hi).mono hs⟩
  | .row e cs false more, hr => exact ⟨hr.1, fun i hi => let ⟨v, h1, h2⟩ := hr.2.1 i hi; ⟨v, h1, h2.mono hs⟩, hr.2.2⟩
  | .nO es clock, ⟨eL, h1, h2, h3⟩ => exact ⟨eL, h1, h2, fun i e e' he lQ => let ⟨a, b, c, d⟩ := h3 i e e' he lQ; ⟨a, b, c, d.mono hs⟩⟩
  | .iter s pos, hr => exact hr
  | .dL st jump tmps n params assign body d, ⟨h0, fn, j7, h1, h2⟩ => exact ⟨(hs d h0).1, fn, j7, by rw [(hs d h0).2]; exact h1, h2.1.mono hs, h2.2⟩
  | .iR, hr => exact hr
theorem kV.world {l : Loc} {o : bB} (hr : kV P ρ S l w o) (hb : w'.heap[l.block]? = w.heap[l.block]?) : kV P ρ S l w' o := by
  match o, hr with
  | .row e cs true more, ⟨cur, h1, h2⟩ => exact ⟨cur, hb.trans h1, h2⟩
  | .row e cs false more, hr => exact ⟨hr.1, fun i hi => let ⟨v, h1, h2⟩ := hr.2.1 i hi; ⟨v, (World.cell?_of_block (a := l.at i) hb).trans h1, h2⟩, hr.2.2⟩
  | .nO es clock, ⟨eL, h1, h2⟩ => exact ⟨eL, hb.trans h1, h2⟩
  | .iter s pos, hr => exact ⟨hb.trans hr.1, hr.2⟩
  | .dL st jump tmps n params assign body d, ⟨h0, fn, j7, h1, h2⟩ => exact ⟨h0, fn, j7, hb.trans h1, h2⟩
  | .iR, hr => exact hb.trans hr
theorem kV.lt {l : Loc} {o : bB} (hr : kV P ρ S l w o) (ho : iG o = true) : l.block < w.heap.size := by
  have key : ∀ x, w.heap[l.block]? = some x -> l.block < w.heap.size := fun x hx => (Array.getElem?_eq_some_iff.1 hx).1
  match o, hr, ho with
  | .row e cs true more, ⟨cur, h1, h2⟩, _ => exact key _ h1
  | .nO es clock, ⟨eL, h1, h2⟩, _ => exact key _ h1
  | .iter s pos, hr, _ => exact key _ hr.1
  | .dL st jump tmps n params assign body d, ⟨h0, fn, j7, h1, h2⟩, _ => exact key _ h1
  | .iR, hr, _ => exact key _ hr
theorem Frame.refl (ρ : Ren) (h : aA) (w : World) : Frame ρ h w w := ⟨rfl, rfl, rfl, Nat.le_refl _, fun _ _ _ => rfl⟩
theorem HR.congr (hr : HR P ρ S B w0 h w) (hs : ∀ b, S b ↔ S' b) : HR P ρ S' B w0 h w := by
  have : S = S' := funext fun b => propext (hs b); subst this; exact hr
theorem Ext.s9 (hh : h'.next = h.next) (b : Nat) : Ext S h h' b ↔ S b := by
  unfold Ext; constructor
  . rintro (h | h)
    . exact h
    omega
  exact .inl
theorem aZ.same (hr : HR P ρ S B w0 h w) : aZ P B w0 ρ ρ S h h w w where
  agree := fun _ _ => rfl
  next := Nat.le_refl _
  hr := hr.congr fun b => (Ext.s9 rfl b).symm
  frame := Frame.refl _ _ _
  low := Nat.le_refl _
  aW := fun _ _ _ => rfl
  old := fun i o ho _ => ⟨o, ho, rfl⟩
  fresh := fun i o ho hi => by
    have := (hr.ids i (hr.aB i o ho).1).1; omega
theorem aZ.trans (m : aZ P B w0 ρ bT S h h1 w w1) {aiB : Ren} (k : aZ P B w0 bT aiB (Ext S h h1) h1 h2 w1 w2) : aZ P B w0 ρ aiB S h h2 w w2 where
  agree := fun b hb => (k.agree b (.inl hb)).trans (m.agree b hb)
  next := Nat.le_trans m.next k.next
  hr := k.hr.congr fun b => by
    have n1 := m.next; have n2 := k.next; unfold Ext; constructor
    . rintro ((h | h) | h)
      . exact .inl h
      . exact .inr (by omega)
      exact .inr (by omega)
    rintro (h | h)
    . exact .inl (.inl h)
    by_cases hb : b < h1.next
    . exact .inl (.inr (by omega))
    exact .inr (by omega)
  frame := by
    refine ⟨k.frame.os.trans m.frame.os, k.frame.tape.trans m.frame.tape, k.frame.output.trans m.frame.output, Nat.le_trans m.frame.size k.frame.size, fun b hb pV => ?_⟩; rw [k.frame.block b (Nat.lt_of_lt_of_le hb m.frame.size) ?_, m.frame.block b hb pV]; intro i o hi ho he; by_cases bL : i < h.next
    . obtain ⟨o', dI, qB⟩ := m.old i o hi bL
      have hS : S i := by
        have := (m.hr.aB i o hi).1; rcases this with h | h
        . exact h
        omega
      rw [m.agree i hS] at he; exact pV i o' dI (qB.trans ho) he
    obtain ⟨_, hf⟩ := m.fresh i o hi (by omega); rcases hf with hf | ⟨j, oj, hj, lR, FO, _⟩
    . omega
    exact pV j oj hj lR (FO.trans he)
  low := Nat.le_trans k.low m.low
  aW := fun i hi hl => by
    have := k.low; exact (k.aW i (Nat.lt_of_lt_of_le hi m.next) hl).trans (m.aW i hi (by omega))
  old := fun i o ho hi => by
    obtain ⟨o1, h1, h2⟩ := k.old i o ho (Nat.lt_of_lt_of_le hi m.next); obtain ⟨o2, h3, h4⟩ := m.old i o1 h1 hi; exact ⟨o2, h3, h4.trans h2⟩
  fresh := fun i o ho hi => by
    by_cases bL : i < h1.next
    . obtain ⟨o1, h3, h4⟩ := k.old i o ho bL; obtain ⟨h5, hf⟩ := m.fresh i o1 h3 hi; have hE : Ext S h h1 i := (m.hr.aB i o1 h3).1; refine ⟨h4 ▸ h5, ?_⟩; rw [k.agree i hE]; rcases hf with hf | ⟨j, oj, hj, lR, FO, hlj, hnj⟩
      . exact .inl hf
      exact .inr ⟨j, oj, hj, lR, FO, Nat.le_trans k.low hlj, hnj⟩
    obtain ⟨h5, hf⟩ := k.fresh i o ho (by omega); refine ⟨h5, ?_⟩; rcases hf with hf | ⟨j, oj, hj, lR, FO, hlj, hnj⟩
    . exact .inl (Nat.le_trans m.frame.size hf)
    by_cases hjn : j < h.next
    . obtain ⟨o2, h6, h7⟩ := m.old j oj hj hjn
      have hS : S j := by
        have := (m.hr.aB j oj hj).1; rcases this with h | h
        . exact h
        omega
      rw [m.agree j hS] at FO; exact .inr ⟨j, o2, h6, h7.trans lR, FO, hlj, hjn⟩
    obtain ⟨_, VK⟩ := m.fresh j oj hj (by omega); rcases VK with VK | ⟨j', oj', y6, ad4, ad5, aiC, al5⟩
    . exact .inl (by omega)
    exact .inr ⟨j', oj', y6, ad4, ad5.trans FO, by have := k.low; omega, al5⟩
end Go.Fs
namespace Go.Fs
open Go.RowKit (Below)
variable {P : Program} {ρ bT : Ren} {S S' : Nat -> Prop} {B : Nat} {w0 w w' w1 w2 : World} {h h' h1 h2 : aA}
def Ren.put (ρ : Ren) (i : Nat) (l : Loc) : Ren := fun b => if b = i then l else ρ b
theorem Ren.fE {i : Nat} {l : Loc} : ρ.put i l i = l := if_pos rfl
theorem Ren.fB {i b : Nat} {l : Loc} (hb : b ≠ i) : ρ.put i l b = ρ b := if_neg hb
theorem HR.ad6 (hr : HR P ρ S B w0 h w) : ¬ S h.next := fun hs => by have := (hr.ids _ hs).1; omega
theorem HR.aaH (hr : HR P ρ S B w0 h w) (l : Loc) : ∀ b, S b -> Ext S h (h.push .iR) b /\ ρ.put h.next l b = ρ b := fun b hb =>
  ⟨.inl hb, Ren.fB fun e => by subst e; exact hr.ad6 hb⟩
theorem Ext.lM (o : bB) : Ext S h (h.push o) h.next := .inr ⟨Nat.le_refl _, Nat.lt_succ_self _⟩
theorem HR.qS (hr : HR P ρ S B w0 h w) (l : Loc) (o : bB) : ∀ b, S b -> Ext S h (h.push o) b /\ ρ.put h.next l b = ρ b := hr.aaH l
theorem aZ.push (hr : HR P ρ S B w0 h w) (o : bB) (x : Obj) (l : Loc) (hl : l.block = w.heap.size) (ho : iG o = true)
    (nE : kV P (ρ.put h.next l) (Ext S h (h.push o)) l (w.alloc x) o) : aZ P B w0 ρ (ρ.put h.next l) S h (h.push o) w (w.alloc x) where
  agree := fun b hb => (hr.qS l o b hb).2
  next := Nat.le_succ _
  hr := {
    aB := fun i o' hi => by
      rw [aA.bN] at hi; split at hi
      . rename_i e; injection hi with hi; subst hi e; exact ⟨Ext.lM o, by rw [Ren.fE]; exact nE⟩
      rename_i e; obtain ⟨h1, h2⟩ := hr.aB i o' hi; refine ⟨.inl h1, ?_⟩; rw [Ren.fB e]; refine (h2.mono (hr.qS l o)).world ?_; by_cases kK : iG o' = true
      . exact Below.heap_alloc w x _ (h2.lt kK)
      have := hr.ro i o' hi (by simpa using kK); have := hr.size; exact Below.heap_alloc w x _ (by omega)
    inj := fun i j oi oj hi hj uM lR he => by
      rw [aA.bN] at hi hj; split at hi <;> split at hj
      . rename_i a b; rw [a, b]
      . rename_i a b; subst a; rw [Ren.fE, Ren.fB b, hl] at he; have := (hr.aB j oj hj).2.lt lR; omega
      . rename_i a b; subst b; rw [Ren.fE, Ren.fB a, hl] at he; have := (hr.aB i oi hi).2.lt uM; omega
      rename_i a b; rw [Ren.fB a, Ren.fB b] at he; exact hr.inj i j oi oj hi hj uM lR he
    base := fun i o' hi qB => by
      rw [aA.bN] at hi; split at hi
      . rename_i e; subst e; rw [Ren.fE, hl]; exact hr.size
      rename_i e; rw [Ren.fB e]; exact hr.base i o' hi qB
    ro := fun i o' hi qB => by
      rw [aA.bN] at hi; split at hi
      . injection hi with hi; subst hi; rw [ho] at qB; cases qB
      rename_i e; rw [Ren.fB e]; exact hr.ro i o' hi qB
    ids := fun b hb => by
      rcases hb with hb | hb
      . have := hr.ids b hb; exact ⟨Nat.lt_succ_of_lt this.1, this.2⟩
      have := hr.pos; exact ⟨hb.2, by omega⟩
    pos := Nat.succ_pos _
    below := hr.below.alloc hr.size x
    drawn := hr.drawn
    size := Nat.le_trans hr.size (by simp) }
  frame := ⟨rfl, rfl, rfl, by simp, fun k hk _ => Below.heap_alloc w x k hk⟩
  low := Nat.le_refl _
  aW := fun i hi _ => by rw [aA.bN, if_neg (by omega)]
  old := fun i o' hi bL => ⟨o', by rw [aA.bN, if_neg (by omega)] at hi; exact hi, rfl⟩
  fresh := fun i o' hi PK => by
    rw [aA.bN] at hi; split at hi
    . rename_i e; injection hi with hi; subst hi e; exact ⟨ho, .inl (by rw [Ren.fE, hl]; exact Nat.le_refl _)⟩
    have := (hr.ids i (hr.aB i o' hi).1).1; omega
theorem aZ.set (hr : HR P ρ S B w0 h w) {i : Nat} {o o' : bB} (hi : h.get i = some o) (ho : iG o = true) (qB : iG o' = true)
    (IB : w'.os = w.os) (ht : w'.tape = w.tape) (y7 : w'.output = w.output) (dJ : w'.heap.size = w.heap.size) (rL : ∀ k, k ≠ (ρ i).block -> w'.heap[k]? = w.heap[k]?)
    (nE : kV P ρ S (ρ i) w' o') (hd : w.drawn <= w'.drawn := by first | exact Nat.le_refl _ | exact Nat.le_succ _) : aZ P B w0 ρ ρ S h (h.set i o') w w' where
  agree := fun _ _ => rfl
  next := Nat.le_refl _
  hr := HR.congr (S := S) {
    aB := fun j oj hj => by
      rw [aA.cZ hi] at hj; split at hj
      . rename_i e; injection hj with hj; subst hj e; exact ⟨(hr.aB j o hi).1, nE⟩
      rename_i e; obtain ⟨h1, h2⟩ := hr.aB j oj hj; refine ⟨h1, h2.world (rL _ fun he => ?_)⟩; by_cases kK : iG oj = true
      . exact e (hr.inj j i oj o hj hi kK ho he)
      have := hr.ro j oj hj (by simpa using kK); have := hr.base i o hi ho; omega
    inj := fun a b oa ob ha hb hoa RZ he => by
      rw [aA.cZ hi] at ha hb; split at ha <;> split at hb
      . rename_i e1 e2; rw [e1, e2]
      . rename_i e1 e2; subst e1; exact hr.inj _ _ o ob hi hb ho RZ he
      . rename_i e1 e2; subst e2; exact hr.inj _ _ oa o ha hi hoa ho he
      exact hr.inj _ _ oa ob ha hb hoa RZ he
    base := fun j oj hj lR => by
      rw [aA.cZ hi] at hj; split at hj
      . rename_i e; subst e; exact hr.base _ o hi ho
      exact hr.base j oj hj lR
    ro := fun j oj hj lR => by
      rw [aA.cZ hi] at hj; split at hj
      . injection hj with hj; subst hj; rw [qB] at lR; cases lR
      exact hr.ro j oj hj lR
    ids := hr.ids
    pos := hr.pos
    drawn := Nat.le_trans hr.drawn hd
    below := ⟨IB.trans hr.below.os, ht.trans hr.below.tape, y7.trans hr.below.output, by rw [dJ]; exact hr.below.size, fun k hk => by
      rw [rL k (fun e => by have := hr.base i o hi ho; omega)]; exact hr.below.block k hk⟩
    size := by rw [dJ]; exact hr.size } fun b => (Ext.s9 rfl b).symm
  frame := ⟨IB, ht, y7, by rw [dJ]; exact Nat.le_refl _, fun k _ pV => rL k (Ne.symm (pV i o hi ho))⟩
  low := Nat.min_le_left _ _
  aW := fun j _ hl => by
    have S3 : min h.low i <= i := Nat.min_le_right _ _; have bL : j < min h.low i := hl; rw [aA.cZ hi, if_neg (by omega)]
  old := fun j oj hj _ => by
    rw [aA.cZ hi] at hj; split at hj
    . rename_i e; injection hj with hj; subst hj e; exact ⟨o, hi, ho.trans qB.symm⟩
    exact ⟨oj, hj, rfl⟩
  fresh := fun j oj hj PK => by
    rw [aA.cZ hi] at hj; split at hj
    . rename_i e; subst e; have := (hr.ids j (hr.aB j o hi).1).1; omega
    have := (hr.ids j (hr.aB j oj hj).1).1; omega
theorem aZ.gone (hr : HR P ρ S B w0 h w) {i : Nat} {o : bB} (hi : h.get i = some o) (ho : iG o = true)
    (IB : w'.os = w.os) (ht : w'.tape = w.tape) (y7 : w'.output = w.output) (dJ : w'.heap.size = w.heap.size) (rL : ∀ k, k ≠ (ρ i).block -> w'.heap[k]? = w.heap[k]?) (hd : w.drawn <= w'.drawn := by first | exact Nat.le_refl _ | exact Nat.le_succ _) : aZ P B w0 ρ ρ S h (h.drop i) w w' where
  agree := fun _ _ => rfl
  next := Nat.le_refl _
  hr := HR.congr (S := S) {
    aB := fun j oj hj => by
      rw [aA.cP] at hj; split at hj
      . cases hj
      rename_i e; obtain ⟨h1, h2⟩ := hr.aB j oj hj; refine ⟨h1, h2.world (rL _ fun he => ?_)⟩; by_cases kK : iG oj = true
      . exact e (hr.inj j i oj o hj hi kK ho he)
      have := hr.ro j oj hj (by simpa using kK); have := hr.base i o hi ho; omega
    inj := fun a b oa ob ha hb hoa RZ he => by
      rw [aA.cP] at ha hb; split at ha
      . cases ha
      split at hb
      . cases hb
      exact hr.inj _ _ oa ob ha hb hoa RZ he
    base := fun j oj hj lR => by
      rw [aA.cP] at hj; split at hj
      . cases hj
      exact hr.base j oj hj lR
    ro := fun j oj hj lR => by
      rw [aA.cP] at hj; split at hj
      . cases hj
      exact hr.ro j oj hj lR
    ids := hr.ids
    pos := hr.pos
    drawn := Nat.le_trans hr.drawn hd
    below := ⟨IB.trans hr.below.os, ht.trans hr.below.tape, y7.trans hr.below.output, by rw [dJ]; exact hr.below.size, fun k hk => by
      rw [rL k (fun e => by have := hr.base i o hi ho; omega)]; exact hr.below.block k hk⟩
    size := by rw [dJ]; exact hr.size } fun b => (Ext.s9 rfl b).symm
  frame := ⟨IB, ht, y7, by rw [dJ]; exact Nat.le_refl _, fun k _ pV => rL k (Ne.symm (pV i o hi ho))⟩
  low := Nat.min_le_left _ _
  aW := fun j _ hl => by
    have S3 : min h.low i <= i := Nat.min_le_right _ _; have bL : j < min h.low i := hl; rw [aA.cP, if_neg (by omega)]
  old := fun j oj hj _ => by
    rw [aA.cP] at hj; split at hj
    . cases hj
    exact ⟨oj, hj, rfl⟩
  fresh := fun j oj hj PK => by
    rw [aA.cP] at hj; split at hj
    . cases hj
    have := (hr.ids j (hr.aB j oj hj).1).1; omega
theorem aZ.replace (hr : HR P ρ S B w0 h w) {b : Nat} {o o' : bB} (hi : h.get b = some o) (ho : iG o = true) (qB : iG o' = true) (l : Loc)
    (hl : l.block = (ρ b).block \/ w.heap.size <= l.block) (hB : B <= l.block)
    (IB : w'.os = w.os) (ht : w'.tape = w.tape) (y7 : w'.output = w.output) (dJ : w.heap.size <= w'.heap.size) (rL : ∀ k, k < w.heap.size -> k ≠ (ρ b).block -> w'.heap[k]? = w.heap[k]?)
    (nE : kV P (ρ.put h.next l) (Ext S h ((h.drop b).push o')) l w' o') (hd : w.drawn <= w'.drawn := by first | exact Nat.le_refl _ | exact Nat.le_succ _) : aZ P B w0 ρ (ρ.put h.next l) S h ((h.drop b).push o') w w' where
  agree := fun x hb => (hr.qS l o x hb).2
  next := Nat.le_succ _
  hr := {
    aB := fun i oi mD => by
      rw [aA.bN] at mD; split at mD
      . rename_i e; have e' : i = h.next := e; injection mD with mD; subst mD; subst e'; exact ⟨Ext.lM o', by rw [Ren.fE]; exact nE⟩
      rename_i e; have e' : i ≠ h.next := e; rw [aA.cP] at mD; split at mD
      . cases mD
      rename_i cM; obtain ⟨h1, h2⟩ := hr.aB i oi mD; refine ⟨.inl h1, ?_⟩; rw [Ren.fB e']; refine (h2.mono (hr.qS l o')).world ?_; by_cases kK : iG oi = true
      . exact rL _ (h2.lt kK) fun he => cM (hr.inj i b oi o mD hi kK ho he)
      have := hr.ro i oi mD (by simpa using kK); have := hr.size; have := hr.base b o hi ho; exact rL _ (by omega) (by omega)
    inj := fun i j oi oj mD MS uM lR he => by
      rw [aA.bN] at mD MS
      have key : ∀ k ok, (h.drop b).get k = some ok -> iG ok = true -> (ρ k).block = l.block -> False := fun k ok hk bW hke => by
        rw [aA.cP] at hk; split at hk
        . cases hk
        rename_i cM; rcases hl with hl | hl
        . exact cM (hr.inj k b ok o hk hi bW ho (hke.trans hl))
        have := (hr.aB k ok hk).2.lt bW; omega
      split at mD <;> split at MS
      . rename_i a c; rw [a, c]
      . rename_i a c; have a' : i = h.next := a; have c' : j ≠ h.next := c; rw [a', Ren.fE, Ren.fB c'] at he; exact (key j oj MS lR he.symm).elim
      . rename_i a c; have a' : i ≠ h.next := a; have c' : j = h.next := c; rw [c', Ren.fE, Ren.fB a'] at he; exact (key i oi mD uM he).elim
      rename_i a c; have a' : i ≠ h.next := a; have c' : j ≠ h.next := c; rw [Ren.fB a', Ren.fB c'] at he; rw [aA.cP] at mD MS; split at mD
      . cases mD
      split at MS
      . cases MS
      exact hr.inj i j oi oj mD MS uM lR he
    base := fun i oi mD uM => by
      rw [aA.bN] at mD; split at mD
      . rename_i e; have e' : i = h.next := e; rw [e', Ren.fE]; exact hB
      rename_i e; have e' : i ≠ h.next := e; rw [aA.cP] at mD; split at mD
      . cases mD
      rw [Ren.fB e']; exact hr.base i oi mD uM
    ro := fun i oi mD uM => by
      rw [aA.bN] at mD; split at mD
      . injection mD with mD; subst mD; rw [qB] at uM; cases uM
      rename_i e; have e' : i ≠ h.next := e; rw [aA.cP] at mD; split at mD
      . cases mD
      rw [Ren.fB e']; exact hr.ro i oi mD uM
    ids := fun x hx => by
      rcases hx with hx | hx
      . have := hr.ids x hx; exact ⟨Nat.lt_succ_of_lt this.1, this.2⟩
      have := hr.pos; exact ⟨hx.2, by omega⟩
    pos := Nat.succ_pos _
    drawn := Nat.le_trans hr.drawn hd
    below := ⟨IB.trans hr.below.os, ht.trans hr.below.tape, y7.trans hr.below.output, Nat.le_trans hr.below.size dJ, fun k hk => by
      have h1 := hr.base b o hi ho; have h2 := hr.size
      rw [rL k (by omega) (by omega)]; exact hr.below.block k hk⟩
    size := Nat.le_trans hr.size dJ }
  frame := ⟨IB, ht, y7, dJ, fun k hk pV => rL k hk (Ne.symm (pV b o hi ho))⟩
  low := Nat.min_le_left _ _
  aW := fun j hj dV => by
    have S3 : min h.low b <= b := Nat.min_le_right _ _; have bL : j < min h.low b := dV; rw [aA.bN, if_neg (show j ≠ (h.drop b).next from Nat.ne_of_lt hj), aA.cP, if_neg (by omega)]
  old := fun j oj hj bL => by
    rw [aA.bN, if_neg (show j ≠ (h.drop b).next from Nat.ne_of_lt bL), aA.cP] at hj; split at hj
    . cases hj
    exact ⟨oj, hj, rfl⟩
  fresh := fun j oj hj PK => by
    rw [aA.bN] at hj; split at hj
    . rename_i e; have e' : j = h.next := e; injection hj with hj; subst hj; refine ⟨qB, ?_⟩; rw [e', Ren.fE]; rcases hl with hl | hl
      . exact .inr ⟨b, o, hi, ho, hl.symm, Nat.min_le_right _ _, (hr.ids b (hr.aB b o hi).1).1⟩
      exact .inl hl
    rw [aA.cP] at hj; split at hj
    . cases hj
    have := (hr.ids j (hr.aB j oj hj).1).1; omega
theorem HR.drew (hr : HR P ρ S B w0 h w) (n : Nat) (hn : w.drawn <= n := by first | exact Nat.le_refl _ | exact Nat.le_succ _) : HR P ρ S B w0 h { w with drawn := n } where
  aB := fun i o hi => ⟨(hr.aB i o hi).1, (hr.aB i o hi).2.world rfl⟩
  inj := hr.inj
  base := hr.base
  ro := hr.ro
  ids := hr.ids
  pos := hr.pos
  below := ⟨hr.below.os, hr.below.tape, hr.below.output, hr.below.size, hr.below.block⟩
  drawn := Nat.le_trans hr.drawn hn
  size := hr.size
theorem aZ.VM (hr : HR P ρ S B w0 h w) (hb : Below w.heap.size w w') (hd : w0.drawn <= w'.drawn) : aZ P B w0 ρ ρ S h h w w' where
  agree := fun _ _ => rfl
  next := Nat.le_refl _
  hr := HR.congr (S := S) {
    aB := fun i o hi => by
      obtain ⟨h1, h2⟩ := hr.aB i o hi; refine ⟨h1, h2.world (hb.block _ ?_)⟩; by_cases kK : iG o = true
      . exact h2.lt kK
      have := hr.ro i o hi (by simpa using kK); have := hr.size; omega
    inj := hr.inj
    base := hr.base
    ro := hr.ro
    ids := hr.ids
    pos := hr.pos
    below := hr.below.trans (hb.mono hr.size)
    drawn := hd
    size := Nat.le_trans hr.size hb.size } fun b => (Ext.s9 rfl b).symm
  frame := ⟨hb.os, hb.tape, hb.output, hb.size, fun k hk _ => hb.block k hk⟩
  low := Nat.le_refl _
  aW := fun _ _ _ => rfl
  old := fun i o ho _ => ⟨o, ho, rfl⟩
  fresh := fun i o ho hi => by
    have := (hr.ids i (hr.aB i o ho).1).1; omega
end Go.Fs
namespace Go.Fs
open Go.RowKit (Below)
variable {P : Program} {ρ bT : Ren} {S S' : Nat -> Prop} {B : Nat} {w0 w w' w1 w2 : World} {h h' h1 h2 : aA}
theorem cD {α : Type} {s : Sem α} {a : α} (h : aE P s = some a) (w : World) : s.run P w = .ok a w := by
  induction s generalizing w with
  | pure x => simp only [aE, Option.some.injEq] at h; subst h; rfl
  | program k ih => simp only [aE] at h; simp only [Sem.run]; exact ih _ h w
  | mark m k ih => simp only [aE] at h; simp only [Sem.run]; exact ih h w
  | _ => simp [aE] at h
theorem aF {α β : Type} (s : Sem α) (f : α -> Sem β) : aE P (s >>= f) = (aE P s).bind fun a => aE P (f a) := by
  show aE P (s.bind f) = _
  induction s with
  | pure x => simp [Sem.bind, aE]
  | program k ih => simp only [Sem.bind, aE]; exact ih _
  | mark m k ih => simp only [Sem.bind, aE]; exact ih
  | _ => simp [Sem.bind, aE]
theorem aK {α : Type} (a : α) : aE P (pure a : Sem α) = some a := rfl
def pA (P : Program) (B : Nat) (w0 : World) (ρ : Ren) (S : Nat -> Prop) (h : aA) (w : World) (v : Value) (h' : aA) (r : Result Value) : Prop :=
  ∃ bT w' v', r = .ok v' w' /\ aZ P B w0 ρ bT S h h' w w' /\ VR bT (Ext S h h') v v'
theorem pA.pure (hr : HR P ρ S B w0 h w) {v v' : Value} (hv : VR ρ S v v') : pA P B w0 ρ S h w v h (.ok v' w) :=
  ⟨ρ, w, v', rfl, aZ.same hr, hv.mono fun _ hb => ⟨.inl hb, rfl⟩⟩
theorem VR.sI {b o : Nat} {v' : Value} (hv : VR ρ S (.pointer (some ⟨b, o, none⟩)) v') : S b /\ v' = .pointer (some ((ρ b).at o)) := by
  cases hv with
  | lit h => simp [eF] at h
  | ptr b o hs => exact ⟨hs, rfl⟩
theorem VR.iB {b o n m : Nat} {v' : Value} (hv : VR ρ S (.slice (some ⟨b, o, none⟩) n m) v') :
    ∃ A c, v' = .slice (some A) n c /\ n <= c /\ (m = 1 -> c = n) /\ (b = 0 -> n = 0) /\ (b ≠ 0 -> S b /\ A = (ρ b).at o /\ (m = 0 -> o + c * (ρ b).BZ = (ρ b).total)) := by
  cases hv with
  | lit h => simp [eF] at h
  | slice b o n m c A hn hm h0 hb => exact ⟨A, c, rfl, hn, hm, h0, hb⟩
theorem VR.iT {v' : Value} (hv : VR ρ S (.slice none 0 0) v') : v' = .slice none 0 0 := hv.iA rfl
theorem VR.r4 {k : IntKind} {n : Int} {v' : Value} (hv : VR ρ S (.int k n) v') : v' = .int k n := hv.iA rfl
theorem VR.vB {b : Bool} {v' : Value} (hv : VR ρ S (.bool b) v') : v' = .bool b := hv.iA rfl
theorem VR.y8 {b : Nat} {v' : Value} (hv : VR ρ S (.map (some b)) v') : S b /\ v' = .map (some (ρ b).block) := by
  cases hv with
  | lit h => simp [eF] at h
  | map b hs => exact ⟨hs, rfl⟩
theorem VR.JL {cs : Array Value} {v' : Value} (hv : VR ρ S (.agg cs) v') : ∃ cs', v' = .agg cs' /\ LR ρ S cs.toList cs'.toList := by
  cases hv with
  | lit h => simp [eF] at h
  | agg cs cs' hl hc => exact ⟨cs', rfl, by simpa using hl, by simpa using hc⟩
theorem VR.JM {cs : Array Value} {v' : Value} (hv : VR ρ S (.tuple cs) v') (hj : Value.tuple cs ≠ Fs.gY) : ∃ cs', v' = .tuple cs' /\ LR ρ S cs.toList cs'.toList := by
  cases hv with
  | lit h => simp [eF] at h
  | gY => exact absurd rfl hj
  | tuple cs cs' hl hc => exact ⟨cs', rfl, by simpa using hl, by simpa using hc⟩
theorem kV.cell {l : Loc} {e : TypeId} {cs : List Value} {own more : Bool} (ho : kV P ρ S l w (.row e cs own more)) {i : Nat} (hi : i < cs.length) :
    ∃ v, w.cell? (l.at i) = some v /\ VR ρ S (cs.getD i undef) v := by
  cases own with
  | false => exact ho.2.1 i hi
  | true =>
    obtain ⟨cur, h1, h2, h3, h4, h5, h6, h7⟩ := ho
    have bL : i < cur.length := by omega
    refine ⟨cur.getD i undef, ?_, h7 i hi⟩; simp [World.cell?, Loc.at, h1, h2, List.getD, bL]
theorem kV.BZ {l : Loc} {e : TypeId} {cs : List Value} {own more : Bool} (ho : kV P ρ S l w (.row e cs own more)) : l.BZ = P.cellsOf e := by
  cases own with
  | false => exact ho.1
  | true => obtain ⟨cur, h1, h2, h3, h4, _⟩ := ho; exact h4
theorem VN (t : TypeId) (d : TypeDesc) (hd : P.underlying t = some d) (w : World) : (isAgg t).run P w = .ok (rS d) w := by
  unfold isAgg; simp only [Sem.run_bind, run_underlying hd, Result.andThen_ok]; cases d <;> rfl
theorem eM (t : TypeId) (i : TypeInfo) (hi : P.info? t = some i) (w : World) : (sizeOf t).run P w = .ok i.size w := by
  simp [sizeOf, typeInfo, hi]
theorem qT (t : TypeId) (i : TypeInfo) (hi : P.info? t = some i) (w : World) : (typeInfo t).run P w = .ok i w := by
  simp [typeInfo, hi]
theorem gO (t : TypeId) (i : TypeInfo) (z : Value) (hi : P.info? t = some i) (hz : i.zero = some z) (w : World) : (zeroValue t).run P w = .ok z w := by
  simp [zeroValue, typeInfo, hi, hz]
theorem qU {l : Loc} {cs : List Value} {o n : Nat} (hc : ∀ i, i < cs.length -> ∃ v, w.cell? (l.at i) = some v /\ VR ρ S (cs.getD i undef) v) (hn : o + n <= cs.length) :
    ∃ vs : List Value, (loadCells (l.at o) n).run P w = .ok vs.toArray w /\ LR ρ S ((cs.drop o).take n) vs := by
  refine ⟨(List.range n).map fun j => (w.cell? (l.at (o + j))).getD undef, ?_, ?_⟩
  . refine run_loadCells w (l.at o) n _ fun j hj => ?_; obtain ⟨v, h1, _⟩ := hc (o + j) (by omega); rw [Loc.tV, h1]; rfl
  refine LR.of_get? (by simp; omega) fun i v v' hv nJ => ?_; rw [List.getElem?_take] at hv; split at hv
  . rename_i hi; rw [List.getElem?_drop] at hv; obtain ⟨u, h1, h2⟩ := hc (o + i) (by omega); simp [hi, h1] at nJ; subst nJ
    have : cs.getD (o + i) undef = v := by simp [List.getD, hv]
    rwa [this] at h2
  cases hv
theorem JN {t : TypeId} {a a' v : Value} (hr : HR P ρ S B w0 h w) (hf : eU P t a h = some v) (ha : VR ρ S a a') :
    ∃ v', (Instr.loadAt t a').run P w = .ok v' w /\ VR ρ S v v' := by
  unfold eU at hf; split at hf
  . rename_i b o; obtain ⟨hs, rfl⟩ := ha.sI; split at hf
    . rename_i e cs own more d i hg hd hi; have nE := (hr.aB b _ hg).2; have uN : ∀ i, i < cs.length -> ∃ v, w.cell? ((ρ b).at i) = some v /\ VR ρ S (cs.getD i undef) v := fun i hi => nE.cell hi; simp only [Instr.loadAt, Instr.sureAddr, loadVar, Sem.run_bind, Sem.run_pure, Result.andThen_ok, VN t d hd]
      cases aiD : rS d with
      | true =>
        rw [aiD] at hf; simp only [if_true] at hf ⊢; split at hf
        . rename_i hle; simp only [Option.some.injEq] at hf; subst hf; obtain ⟨vs, h1, h2⟩ := qU (P := P) uN hle; simp only [Sem.run_bind, eM t i hi, Result.andThen_ok, h1, Sem.run_pure]; exact ⟨_, rfl, VR.RX (by simpa using h2)⟩
        cases hf
      | false =>
        rw [aiD] at hf; simp only [Bool.false_eq_true, if_false] at hf ⊢; obtain ⟨bL, rfl⟩ := List.getElem?_eq_some_iff.1 hf; obtain ⟨u, h1, h2⟩ := uN o bL; rw [run_load, h1]; exact ⟨u, rfl, by simpa [List.getD, bL] using h2⟩
    cases hf
  cases hf
theorem H0 (v : Value) : Value.oneCell' v = aU v := by cases v <;> rfl
theorem qC (cs : List Value) (o : Nat) (vs : List Value) (ho : o + vs.length <= cs.length) (i : Nat) :
    (cs.take o ++ vs ++ cs.drop (o + vs.length))[i]? = if i < o then cs[i]? else if i < o + vs.length then vs[i - o]? else cs[i]? := by
  rw [List.append_assoc, List.getElem?_append, List.length_take, show min o cs.length = o by omega]; by_cases h1 : i < o
  . rw [if_pos h1, if_pos h1, List.getElem?_take, if_pos h1]
  rw [if_neg h1, if_neg h1, List.getElem?_append]; by_cases h2 : i < o + vs.length
  . rw [if_pos (by omega), if_pos h2]
  rw [if_neg (by omega), if_neg h2, List.getElem?_drop]; congr 1; omega
theorem sJ (cs : List Value) (o : Nat) (vs : List Value) (ho : o + vs.length <= cs.length) : (cs.take o ++ vs ++ cs.drop (o + vs.length)).length = cs.length := by
  simp; omega
theorem LR.VP {cs cur vs gV : List Value} (h : ∀ i, i < cs.length -> VR ρ S (cs.getD i undef) (cur.getD i undef)) (hl : cs.length <= cur.length) (hv : LR ρ S vs gV) {o : Nat} (ho : o + vs.length <= cs.length) :
    ∀ i, i < (Fs.cU cs o vs).length -> VR ρ S ((Fs.cU cs o vs).getD i undef) ((cur.take o ++ gV ++ cur.drop (o + gV.length)).getD i undef) := by
  intro i hi; have hll := hv.1; unfold Fs.cU at hi ⊢; rw [sJ cs o vs ho] at hi; rw [List.getD_eq_getElem?_getD, List.getD_eq_getElem?_getD, qC cs o vs ho, qC cur o gV (by omega), <- hll]; have h0 := h i hi; rw [List.getD_eq_getElem?_getD, List.getD_eq_getElem?_getD] at h0; by_cases h1 : i < o
  . rw [if_pos h1, if_pos h1]; exact h0
  rw [if_neg h1, if_neg h1]; by_cases h2 : i < o + vs.length
  . rw [if_pos h2, if_pos h2]; have := hv.2 (i - o) (by omega)
    rwa [List.getD_eq_getElem?_getD, List.getD_eq_getElem?_getD] at this
  rw [if_neg h2, if_neg h2]; exact h0
theorem PL {l : Loc} {c : Array Value} {e : TypeId} {j : Nat} (h : w.heap[l.block]? = some (.cells c e l.fz)) (hj : j < l.total) : w.frozen? ⟨l.block, j, none⟩ = false := by
  unfold World.frozen?; rw [h]; have := l.hfz; by_cases h1 : l.fz.1 <= j
  . have h2 : ¬ j < l.fz.2 := by omega
    simp [h2]
  simp [h1]
theorem oF (P : Program) (g o : Nat) (t : TypeId) (fz : Nat × Nat) : ∀ (vs : List Value) (i : Nat) (cur : Array Value) (w : World), w.heap[g]? = some (.cells cur t fz) -> (fz.1 = fz.2 \/ cur.size <= fz.1) -> o + i + vs.length <= cur.size -> (∀ v ∈ vs, v.oneCell' = true) ->
    (storeCells ⟨g, o, none⟩ vs i).run P w = .ok () (w.setRow g (cur.toList.take (o + i) ++ vs ++ cur.toList.drop (o + i + vs.length)).toArray)
  | [], i, cur, w, hg, _, _, _ => by
    simp only [storeCells, List.append_nil, List.length_nil, Nat.add_zero, List.take_append_drop, Array.toArray_toList]; rw [setRow_self w g cur t fz hg]
    rfl
  | v :: rest, i, cur, w, hg, hz, hl, h1 => by
    have hi : o + i < cur.size := by simp at hl; omega
    have Z5 : (⟨g, o, none⟩ : Addr).add i = ⟨g, o + i, none⟩ := by unfold Addr.add; split <;> simp_all
    have uN : w.cell? ⟨g, o + i, none⟩ = some cur[o + i] := by simp [World.cell?, hg, hi]
    have al6 : w.frozen? ⟨g, o + i, none⟩ = false := PL (l := ⟨g, 0, cur.size, 0, fz, hz⟩) hg hi
    have bR : (store ((⟨g, o, none⟩ : Addr).add i) v).run P w = .ok () (w.setRow g (cur.setIfInBounds (o + i) v)) := by
      rw [Z5, run_store P w _ v _ (h1 v (by simp)), uN]; simp [al6, setCell_eq_setRow w g (o + i) cur t fz v hg]
    have ih := oF P g o t fz rest (i + 1) (cur.setIfInBounds (o + i) v) (w.setRow g (cur.setIfInBounds (o + i) v)) (setRow_heap w g cur _ t _ hg) (by simpa using hz) (by simp at hl ⊢; omega) (fun x hx => h1 x (by simp [hx])); simp only [storeCells, Sem.run_bind, bR, Result.andThen_ok, ih, setRow_setRow]; congr 3; have e := list_seg_step cur.toList (o + i) v rest (by simp at hl ⊢; omega); simpa [Array.toList_setIfInBounds, Nat.add_assoc] using e
theorem pB {b o : Nat} {e : TypeId} {cs vs gV : List Value} {more : Bool} (hr : HR P ρ S B w0 h w) (hg : h.get b = some (.row e cs true more)) (hv : LR ρ S vs gV)
    (jO : vs.all aU = true) (hle : o + vs.length <= cs.length) :
    ∃ w', (storeCells ((ρ b).at o) gV).run P w = .ok () w' /\ aZ P B w0 ρ ρ S h (h.set b (.row e (cU cs o vs) true more)) w w' := by
  obtain ⟨_, cur, h1, h2, h3, h4, h5, h6, h7⟩ := hr.aB b _ hg
  have FP : (ρ b).at o = ⟨(ρ b).block, o, none⟩ := by simp [Loc.at, h2]
  have eK := oF P (ρ b).block o e (ρ b).fz gV 0 cur.toArray w h1 (by have := (ρ b).hfz; simpa [h3] using this) (by have := hv.1; simp; omega) (fun v nJ => by rw [H0]; exact hv.aU jO v nJ); rw [FP]; simp only [Nat.add_zero] at eK; refine ⟨_, eK, aZ.set hr hg rfl rfl rfl rfl rfl (by simp [World.setRow]) (fun k hk => setRow_other w _ k _ hk) ?_⟩; refine ⟨cur.take o ++ gV ++ cur.drop (o + gV.length), ?_, h2, ?_, h4, ?_, ?_, ?_⟩
  . rw [setRow_heap w _ cur.toArray _ e _ h1]
  . have := hv.1
    simp; omega
  . have := hv.1; simp [cU]; omega
  . intro hm; have := h6 hm; have := hv.1; simp [cU]; omega
  exact LR.VP h7 h5 hv hle
theorem S4 {t : TypeId} {a a' x x' : Value} (hr : HR P ρ S B w0 h w) (hf : mH P t a x h = some h') (ha : VR ρ S a a') (hx : VR ρ S x x') :
    ∃ w', (Instr.storeAt t a' x').run P w = .ok () w' /\ aZ P B w0 ρ ρ S h h' w w' := by
  unfold mH at hf; split at hf
  . rename_i b o; obtain ⟨hs, rfl⟩ := ha.sI; split at hf
    . rename_i e cs more i hg hi; simp only at hf; split at hf
      . rename_i hc; obtain ⟨dJ, hle, jO⟩ := hc; simp only [Option.some.injEq] at hf; subst hf; have dD := hx.cells jO; obtain ⟨w', h1, h2⟩ := pB hr hg dD jO hle; refine ⟨w', ?_, h2⟩; have hl := dD.1; simp only [Instr.storeAt, Instr.sureAddr, storeVar, Sem.run_bind, Sem.run_pure, Result.andThen_ok, eM t i hi]; rw [if_neg (by simp at hl dJ ⊢; omega)]; exact h1
      cases hf
    cases hf
  cases hf
theorem wG (hr : HR P ρ S B w0 h w) (e : TypeId) {cs cur : List Value} (more : Bool) (hle : cs.length <= cur.length) (hm : more = false -> cs.length = cur.length)
    (hv : ∀ i, i < cs.length -> VR ρ S (cs.getD i undef) (cur.getD i undef)) :
    aZ P B w0 ρ (ρ.put h.next (.clean w.heap.size 0 cur.length (P.cellsOf e))) S h (h.push (.row e cs true more)) w (w.alloc (.cells cur.toArray e)) :=
  aZ.push hr _ _ _ rfl rfl ⟨cur, heap_alloc_new w _, rfl, rfl, rfl, hle, hm, fun i hi => (hv i hi).mono (hr.qS _ _)⟩
theorem VQ {cs : List Value} {e : TypeId} {more : Bool} {l : Loc} (hl : l.off = 0) : VR (ρ.put h.next l) (Ext S h (h.push (.row e cs true more))) (.pointer (some ⟨h.next, 0, none⟩)) (.pointer (some ⟨l.block, 0, none⟩)) := by
  have := VR.ptr (ρ := ρ.put h.next l) (S := Ext S h (h.push (.row e cs true more))) h.next 0 (Ext.lM _); rw [Ren.fE] at this; simpa [Loc.at, hl] using this
theorem NR {e : TypeId} {x x' v : Value} (hr : HR P ρ S B w0 h w) (hf : uI e x h = some (v, h')) (hx : VR ρ S x x') :
    pA P B w0 ρ S h w v h' ((do pure (.pointer (some (<- newVar e x'))) : Sem Value).run P w) := by
  unfold uI at hf; split at hf
  . rename_i jO; simp only [Option.some.injEq, Prod.mk.injEq] at hf; obtain ⟨rfl, rfl⟩ := hf; have hc := hx.cells jO; refine ⟨_, _, _, ?_, wG hr e (cs := x.cells.toList) (cur := x'.cells.toList) false (by have := hc.1; omega) (fun _ => hc.1) hc.2, VQ rfl⟩; simp [newVar, newRow]
  cases hf
end Go.Fs
namespace Go.Fs
open Go.RowKit (Below)
variable {P : Program} {ρ bT : Ren} {S S' : Nat -> Prop} {B : Nat} {w0 w w' w1 w2 : World} {h h' h1 h2 : aA}
theorem VR.JO {a : Addr} {v' : Value} (hv : VR ρ S (.pointer (some a)) v') : ∃ b o, a = ⟨b, o, none⟩ /\ S b /\ v' = .pointer (some ((ρ b).at o)) := by
  cases hv with
  | lit h => simp [eF] at h
  | ptr b o hs => exact ⟨b, o, rfl, hs, rfl⟩
theorem VR.JP {a : Addr} {n m : Nat} {v' : Value} (hv : VR ρ S (.slice (some a) n m) v') : ∃ b o, a = ⟨b, o, none⟩ /\ VR ρ S (.slice (some ⟨b, o, none⟩) n m) v' := by
  cases hv with
  | lit h => simp [eF] at h
  | slice b o n m c A hn hm h0 hb => exact ⟨b, o, rfl, .slice b o n m c A hn hm h0 hb⟩
theorem VR.r5 {s : ByteArray} {v' : Value} (hv : VR ρ S (.string s) v') : v' = .string s := hv.iA rfl
theorem BJ (off : Nat) : ∀ (vs gV : List Value) (k : Nat) (cs cs' : Array Value), LR ρ S vs gV -> LR ρ S cs.toList cs'.toList ->
    LR ρ S ((vs.zipIdx k).foldl (fun cs (p : Value × Nat) => cs.setIfInBounds (off + p.2) p.1) cs).toList ((gV.zipIdx k).foldl (fun cs (p : Value × Nat) => cs.setIfInBounds (off + p.2) p.1) cs').toList
  | [], [], k, cs, cs', _, h => h
  | [], _ :: _, k, cs, cs', hv, _ => by have := hv.1; simp at this
  | _ :: _, [], k, cs, cs', hv, _ => by have := hv.1; simp at this
  | v :: vs, v' :: gV, k, cs, cs', hv, h => by
    simp only [List.zipIdx_cons, List.foldl_cons]
    have h0 : VR ρ S v v' := by simpa using hv.2 0 (by simp)
    have ht : LR ρ S vs gV := ⟨by simpa using hv.1, fun i hi => by simpa using hv.2 (i + 1) (by simpa using hi)⟩; refine BJ off vs gV (k + 1) _ _ ht ?_; simpa using h.set (off + k) h0
theorem DG (place : Nat -> Option (Nat × Nat)) (ev kT : Operand -> Value) : ∀ (ps : List (Nat × Operand)) (cells DH out : Array Value),
    (∀ p ∈ ps, VR ρ S (ev p.2) (kT p.2)) -> (∀ p ∈ ps, (ev p.2).cells.toList.all aU = true) -> LR ρ S cells.toList DH.toList ->
    Instr.fill place cells (ps.map fun p => (p.1, ev p.2)) = some out -> ∃ NS, Instr.fill place DH (ps.map fun p => (p.1, kT p.2)) = some NS /\ LR ρ S out.toList NS.toList
  | [], cells, DH, out, _, _, hc, hf => by
    simp only [List.map_nil, Instr.fill, Option.some.injEq] at hf ⊢
    subst hf; exact ⟨_, rfl, hc⟩
  | (i, x) :: rest, cells, DH, out, hv, ho, hc, hf => by
    simp only [List.map_cons, Instr.fill] at hf ⊢
    cases hp : place i with
    | none => rw [hp] at hf; cases hf
    | some q =>
      obtain ⟨off, size⟩ := q; rw [hp] at hf; simp only at hf ⊢; have hx := (hv (i, x) (by simp)).cells (ho (i, x) (by simp)); have hl := hx.1; have wD := hc.1; simp only [Array.length_toList] at hl wD; rw [<- hl, <- wD]; split at hf
      . cases hf
      rename_i ajI; rw [if_neg ajI]; refine DG place ev kT rest _ _ out (fun p hp => hv p (by simp [hp])) (fun p hp => ho p (by simp [hp])) ?_ hf
      have key : ∀ a c : Array Value, (a.toList.zipIdx 0).foldl (fun cs (p : Value × Nat) => cs.setIfInBounds (off + p.2) p.1) c = a.zipIdx.foldl (fun cs (p : Value × Nat) => cs.setIfInBounds (off + p.2) p.1) c := fun a c => by
        rw [<- Array.foldl_toList, Array.toList_zipIdx]
      have := BJ (ρ := ρ) (S := S) off _ _ 0 cells DH hx hc; rw [key, key] at this; simpa using this
theorem LR.NT {l : List Value} (h : l.all eF = true) : LR ρ S l l := LR.zQ fun v hv => List.all_eq_true.1 h v hv
theorem aaI {t : TypeId} {parts : Array (Nat × Operand)} {ev kT : Operand -> Value} {v : Value} (hv : ∀ p ∈ parts.toList, VR ρ S (ev p.2) (kT p.2))
    (ho : parts.toList.all (fun p => (ev p.2).cells.toList.all aU) = true) {z : Value} (hz : (P.info? t).bind (·.zero) = some z) (DI : z.cells.toList.all eF = true)
    (hf : aE P (Instr.build t (parts.map fun p => (p.1, ev p.2))) = some v) (w : World) :
    ∃ v', (Instr.build t (parts.map fun p => (p.1, kT p.2))).run P w = .ok v' w /\ VR ρ S v v' := by
  unfold Instr.build at hf ⊢
  cases hi : P.info? t with
  | none => rw [hi] at hz; cases hz
  | some i =>
    rw [hi] at hz; simp only [Option.bind_some] at hz; have MT := gO (P := P) t i z hi hz; simp only [aF, Option.bind_eq_some_iff] at hf; obtain ⟨z2, PM, d, hd, hf⟩ := hf; have e1 := cD PM w; rw [MT w] at e1; injection e1 with e1; subst e1; have e2 := cD hd w; simp only [Sem.run_bind, MT w, Result.andThen_ok, e2]; have qB : ∀ p ∈ parts.toList, (ev p.2).cells.toList.all aU = true := fun p hp => List.all_eq_true.1 ho p hp; split at hf
    . rename_i fields; simp only [aF, Option.bind_eq_some_iff] at hf; obtain ⟨places, hp, hf⟩ := hf; have e3 := cD hp w; simp only [Sem.run_bind, e3, Result.andThen_ok]; split at hf
      . rename_i cells dD; rw [Array.toList_map] at dD; obtain ⟨NS, h1, h2⟩ := DG (ρ := ρ) (S := S) _ ev kT parts.toList z.cells z.cells cells hv qB (LR.NT DI) dD; rw [Array.toList_map, h1]; simp only [aE, aK, Option.some.injEq] at hf; subst hf; exact ⟨_, rfl, VR.RX h2⟩
      simp [stuck, aE] at hf
    . rename_i n elem; simp only [aF, Option.bind_eq_some_iff] at hf; obtain ⟨size, hp, hf⟩ := hf; have e3 := cD hp w; simp only [Sem.run_bind, e3, Result.andThen_ok]; split at hf
      . rename_i cells dD; rw [Array.toList_map] at dD; obtain ⟨NS, h1, h2⟩ := DG (ρ := ρ) (S := S) _ ev kT parts.toList z.cells z.cells cells hv qB (LR.NT DI) dD; rw [Array.toList_map, h1]; simp only [aE, aK, Option.some.injEq] at hf; subst hf; exact ⟨_, rfl, VR.RX h2⟩
      simp [stuck, aE] at hf
    simp [stuck, aE] at hf
theorem S5 {t : TypeId} {cs cs' : Array Value} {off : Nat} {v : Value} (hc : LR ρ S cs.toList cs'.toList) (hf : aE P (part t cs off) = some v) (w : World) :
    ∃ v', (part t cs' off).run P w = .ok v' w /\ VR ρ S v v' := by
  unfold part at hf ⊢; simp only [aF, Option.bind_eq_some_iff] at hf; obtain ⟨ag, ha, hf⟩ := hf; have e1 := cD ha w; simp only [Sem.run_bind, e1, Result.andThen_ok]
  cases ag with
  | true =>
    simp only [if_true, aF, Option.bind_eq_some_iff] at hf ⊢; obtain ⟨size, hs, hf⟩ := hf; have e2 := cD hs w; simp only [aE, aK, Option.some.injEq] at hf; subst hf; simp only [Sem.run_bind, e2, Result.andThen_ok, Sem.run_pure]
    exact ⟨_, rfl, VR.RX (by simpa [Array.toList_extract, List.extract] using (hc.drop off).take _)⟩
  | false =>
    simp only [Bool.false_eq_true, if_false] at hf ⊢
    cases hx : cs[off]? with
    | none => rw [hx] at hf; simp [stuck, aE] at hf
    | some u =>
      rw [hx] at hf; simp only [aE, aK, Option.some.injEq] at hf; subst hf; obtain ⟨u', h1, h2⟩ := hc.get? (i := off) (v := u) (by simpa using hx)
      have nR : cs'[off]? = some u' := by simpa using h1
      rw [nR]; exact ⟨u', rfl, h2⟩
theorem aaJ {t : TypeId} {x x' v : Value} {f : Nat} (hx : VR ρ S x x') (hf : aE P (Instr.field t x f) = some v) (w : World) :
    ∃ v', (Instr.field t x' f).run P w = .ok v' w /\ VR ρ S v v' := by
  unfold Instr.field at hf ⊢; simp only [aF, Option.bind_eq_some_iff] at hf; obtain ⟨d, hd, hf⟩ := hf; have e1 := cD hd w; simp only [Sem.run_bind, e1, Result.andThen_ok]; split at hf
  . split at hf
    . rename_i fd hfd; simp only [aF, Option.bind_eq_some_iff] at hf; obtain ⟨cs, gW, hf⟩ := hf
      cases x with
      | agg c =>
        simp only [asAgg, aK, Option.some.injEq] at gW; subst gW; obtain ⟨cs', rfl, hl⟩ := hx.JL; simp only [asAgg, Sem.run_bind, Sem.run_pure, Result.andThen_ok]
        exact S5 hl hf w
      | _ => simp [asAgg, stuck, aE] at gW
    simp [stuck, aE] at hf
  simp [stuck, aE] at hf
theorem S6 {x x' v : Value} {ix : Nat} (hx : VR ρ S x x') (hj : x ≠ gY) (hf : aE P (Instr.extract x ix) = some v) (w : World) :
    ∃ v', (Instr.extract x' ix).run P w = .ok v' w /\ VR ρ S v v' := by
  unfold Instr.extract at hf; split at hf
  . rename_i vs; obtain ⟨gV, rfl, hl⟩ := hx.JM hj; split at hf
    . rename_i u hu; simp only [aK, Option.some.injEq] at hf; subst hf; obtain ⟨u', h1, h2⟩ := hl.get? (i := ix) (v := u) (by simpa using hu)
      have nR : gV[ix]? = some u' := by simpa using h1
      simp only [Instr.extract, nR]; exact ⟨u', rfl, h2⟩
    simp [stuck, aE] at hf
  simp [stuck, aE] at hf
theorem S7 {s : TypeId} {x x' v : Value} {f : Nat} (hx : VR ρ S x x') (hf : aE P (Instr.fieldAt s x f) = some v) (w : World) :
    ∃ v', (Instr.fieldAt s x' f).run P w = .ok v' w /\ VR ρ S v v' := by
  unfold Instr.fieldAt at hf ⊢; simp only [aF, Option.bind_eq_some_iff] at hf; obtain ⟨d, hd, hf⟩ := hf; have e1 := cD hd w; simp only [Sem.run_bind, e1, Result.andThen_ok]; split at hf
  . split at hf
    . rename_i fd hfd; simp only [aF, Option.bind_eq_some_iff] at hf; obtain ⟨a, ha, p, hp, hf⟩ := hf; unfold Instr.sureAddr at ha; split at ha
      . rename_i a0; simp only [aK, Option.some.injEq] at ha; subst ha; obtain ⟨b, o, rfl, hs, rfl⟩ := hx.JO; unfold fieldPlace at hp; simp only [aF, Option.bind_eq_some_iff] at hp; obtain ⟨sz, dJ, hp⟩ := hp; have e2 := cD dJ w; split at hp
        . unfold partAt byteOf at hp; simp [aF, aE, shape, noView, viewAt, program] at hp
        rename_i cM; simp only [aK, Option.some.injEq] at hp hf; subst hp hf; simp only [Instr.sureAddr, fieldPlace, Sem.run_bind, Sem.run_pure, Result.andThen_ok, e2]; rw [if_neg cM]; simp only [Sem.run_pure, Result.andThen_ok]; refine ⟨_, rfl, ?_⟩
        rw [Loc.tV, show (⟨b, o, none⟩ : Addr).add fd.offset = ⟨b, o + fd.offset, none⟩ by
          unfold Addr.add; split
          . rename_i e; simp [e]
          rfl]
        exact .ptr b _ hs
      simp [stuck, aE] at ha
    simp [stuck, aE] at hf
  simp [stuck, aE] at hf
theorem oT (b o k : Nat) : (⟨b, o, none⟩ : Addr).add k = ⟨b, o + k, none⟩ := by
  unfold Addr.add; split
  . rename_i e; simp [e]
  rfl
theorem pC {α : Type} (k : IntKind) (x y : Int) (c : BoundsCode) : aE P (boundsPanic k x y c : Sem α) = none := by
  unfold boundsPanic; simp only [aF]; split <;> simp [aF, runtimePanic, choose, aE, program, goPanic, aK, Functor.map, Sem.bind]
theorem S8 {t : TypeId} {x x' ix v : Value} (hx : VR ρ S x x') (hf : aE P (Instr.indexAt t x ix) = some v) (w : World) :
    ∃ v', (Instr.indexAt t x' ix).run P w = .ok v' w /\ VR ρ S v v' := by
  unfold Instr.indexAt at hf ⊢; simp only [aF, Option.bind_eq_some_iff] at hf; obtain ⟨ki, iC, d, hd, hf⟩ := hf; have e1 := cD iC w; have e2 := cD hd w; obtain ⟨k, i⟩ := ki; simp only [Sem.run_bind, e1, Result.andThen_ok, e2]; split at hf
  . rename_i len elem; simp only [aF, Option.bind_eq_some_iff] at hf; obtain ⟨a, ha, be, hbe, d2, VS, hf⟩ := hf; have e3 := cD VS w; simp only [aK, Option.some.injEq] at hbe; subst hbe; unfold Instr.sureAddr at ha; split at ha
    . rename_i a0; simp only [aK, Option.some.injEq] at ha; subst ha; obtain ⟨b, o, rfl, hs, rfl⟩ := hx.JO; simp only [Instr.sureAddr, Sem.run_bind, Sem.run_pure, Result.andThen_ok, e3]; simp only at hf ⊢; split at hf
      . rename_i vC; simp only [aF, Option.bind_eq_some_iff] at hf; obtain ⟨sz, dJ, hf⟩ := hf; have e4 := cD dJ w; simp only [aK, Option.some.injEq] at hf; subst hf; rw [if_pos vC]; simp only [Sem.run_bind, e4, Result.andThen_ok, Sem.run_pure]; refine ⟨_, rfl, ?_⟩; rw [Loc.tV, oT]; exact .ptr b _ hs
      exfalso
      revert hf
      repeat' split
      all_goals simp [unsupported, aE, pC]
    simp [stuck, aE] at ha
  . rename_i elem base len cp; simp only [aF, Option.bind_eq_some_iff] at hf; obtain ⟨be, hbe, d2, VS, hf⟩ := hf; have e3 := cD VS w; simp only [aK, Option.some.injEq] at hbe; subst hbe; simp only at hf ⊢
    cases base with
    | none =>
      simp only [pC] at hf
      cases hf
    | some a0 =>
      obtain ⟨b, o, rfl, FQ⟩ := hx.JP; obtain ⟨A, c, rfl, hn, hm, h0, hb⟩ := FQ.iB; simp only [Sem.run_bind, Sem.run_pure, Result.andThen_ok, e3]; simp only at hf ⊢; split at hf
      . rename_i vC
        have iY : b ≠ 0 := fun e => by have := h0 e; omega
        obtain ⟨hs, rfl, _⟩ := hb iY; simp only [aF, Option.bind_eq_some_iff] at hf; obtain ⟨sz, dJ, hf⟩ := hf; have e4 := cD dJ w; simp only [aK, Option.some.injEq] at hf; subst hf; rw [if_pos vC]; simp only [Sem.run_bind, e4, Result.andThen_ok, Sem.run_pure]; refine ⟨_, rfl, ?_⟩; rw [Loc.tV, oT]; exact .ptr b _ hs
      exfalso
      revert hf
      repeat' split
      all_goals simp [unsupported, aE, pC]
  simp only [aF, stuck, aE] at hf; cases hf
theorem aaK {t : TypeId} {x x' ix v : Value} (hx : VR ρ S x x') (hf : aE P (Instr.index t x ix) = some v) (w : World) :
    ∃ v', (Instr.index t x' ix).run P w = .ok v' w /\ VR ρ S v v' := by
  unfold Instr.index at hf ⊢; simp only [aF, Option.bind_eq_some_iff] at hf; obtain ⟨ki, iC, d, hd, hf⟩ := hf; have e1 := cD iC w; have e2 := cD hd w; obtain ⟨k, i⟩ := ki; simp only [Sem.run_bind, e1, Result.andThen_ok, e2]; split at hf
  . rename_i len elem cs; obtain ⟨cs', rfl, hl⟩ := hx.JL; simp only at hf ⊢; split at hf
    . rename_i vC; simp only [aF, Option.bind_eq_some_iff] at hf; obtain ⟨sz, dJ, hf⟩ := hf; have e4 := cD dJ w; rw [if_pos vC]; simp only [Sem.run_bind, e4, Result.andThen_ok]; exact S5 hl hf w
    rw [pC] at hf; cases hf
  . rename_i s; obtain rfl := hx.r5; simp only; split at hf
    . rename_i b hb; simp only [aK, Option.some.injEq] at hf; subst hf; simp only [hb]; exact ⟨_, rfl, .lit rfl⟩
    rw [pC] at hf; cases hf
  simp [stuck, aE] at hf
end Go.Fs
namespace Go.Fs
open Go.RowKit (Below)
variable {P : Program} {ρ bT : Ren} {S S' : Nat -> Prop} {B : Nat} {w0 w w' w1 w2 : World} {h h' h1 h2 : aA}
theorem aT {α : Type} {c : Bool} {x : Option α} {v : α} (h : (bif c then x else none) = some v) : c = true /\ x = some v := by
  cases c
  . cases h
  exact ⟨rfl, h⟩
theorem b6 {a b : Bool} (h : (a && b) = true) : a = true /\ b = true := by cases a <;> cases b <;> simp_all
theorem fP {a b : Nat} (h : Nat.ble a b = true) : a <= b := Nat.le_of_ble_eq_true h
theorem j8 {a b : Nat} (h : Nat.ble a b = false) : b < a := by
  rcases Nat.lt_or_ge b a with bL | PK
  . exact bL
  rw [Nat.ble_eq_true_of_le PK] at h; cases h
theorem jP {a b : Nat} (h : Nat.blt a b = true) : a < b := Nat.le_of_ble_eq_true h
theorem bU {a b : Nat} (h : Nat.beq a b = true) : a = b := Nat.eq_of_beq_eq_true h
theorem rX {n : Int} (h0 : 0 <= n) (h1 : n <= 1099511627776) : IntKind.i64.wrap n = n := by
  have e : n % (2 ^ 64 : Int) = n := Int.emod_eq_of_lt h0 (by omega); simp only [IntKind.wrap, IntKind.bits, IntKind.signed, e]; rw [if_neg]; simp; omega
theorem aZ.wH {n : Nat} (m : aZ P B w0 ρ bT S h h' { w with drawn := n } w') : aZ P B w0 ρ bT S h h' w w' :=
  ⟨m.agree, m.next, m.hr, ⟨m.frame.os, m.frame.tape, m.frame.output, m.frame.size, m.frame.block⟩, m.low, m.aW, m.old, m.fresh⟩
theorem JQ (place : Nat -> Option (Nat × Nat)) : ∀ (ps : List (Nat × Value)) (cells out : Array Value), Instr.fill place cells ps = some out -> out.size = cells.size
  | [], cells, out, hf => by simp only [Instr.fill, Option.some.injEq] at hf; rw [hf]
  | (i, v) :: rest, cells, out, hf => by
    simp only [Instr.fill] at hf; split at hf
    . cases hf
    split at hf
    . cases hf
    rw [JQ place rest _ out hf]
    have key : ∀ (off : Nat) (l : List (Value × Nat)) (cs : Array Value), (l.foldl (fun cs (p : Value × Nat) => cs.setIfInBounds (off + p.2) p.1) cs).size = cs.size := by
      intro off l
      induction l with
      | nil => intro cs; rfl
      | cons p l ih => intro cs; rw [List.foldl_cons, ih]; simp
    rw [<- Array.foldl_toList]; exact key _ _ _
theorem af0_get! (cs : Array Value) (h : cs.toList.all eF = true) (k : Nat) : eF cs[k]! = true := by
  by_cases hk : k < cs.size
  . rw [getElem!_pos cs k hk]; exact List.all_eq_true.1 h _ (by simp)
  rw [getElem!_neg cs k hk]; rfl
theorem qD (hp : 0 < h.next) (n c : Nat) (l : Loc) (hl : l.off = 0) (hn : n <= c) (ht : c * l.BZ = l.total) (h2 : aA) (hx : Ext S h h2 h.next) :
    VR (ρ.put h.next l) (Ext S h h2) (.slice (some ⟨h.next, 0, none⟩) n 0) (.slice (some ⟨l.block, 0, none⟩) n c) := by
  refine .slice h.next 0 n 0 c _ hn (fun e => by cases e) (fun e => by omega) fun hb => ⟨hx, ?_, fun _ => ?_⟩
  . rw [Ren.fE]; simp [Loc.at, hl]
  rw [Ren.fE]; omega
theorem iU {e : TypeId} {i : TypeInfo} (hi : P.info? e = some i) : P.cellsOf e = i.size := by simp [Program.cellsOf, hi]
theorem DJ (hr : HR P ρ S B w0 h w) {e : TypeId} {i : TypeInfo} (hi : P.info? e = some i) (n : Nat) {cs : List Value} {cur : Array Value} (hv : LR ρ S cs cur.toList) (hn : cur.size = n * i.size) :
    pA P B w0 ρ S h w (.slice (some ⟨h.next, 0, none⟩) n 0) (h.push (.row e cs true false)) (.ok (.slice (some ⟨w.heap.size, 0, none⟩) n n) (w.alloc (.cells cur e))) := by
  have hm := wG hr e (cs := cs) (cur := cur.toList) false (by have := hv.1; omega) (fun _ => hv.1) hv.2; refine ⟨_, _, _, rfl, by simpa using hm, qD hr.pos n n _ rfl (Nat.le_refl _) ?_ _ (Ext.lM _)⟩; simp [iU hi, hn]
theorem JR {t : TypeId} {len : Nat} {parts : Array (Nat × Operand)} {ev kT : Operand -> Value} {v : Value} (hr : HR P ρ S B w0 h w) (hv : ∀ p ∈ parts.toList, VR ρ S (ev p.2) (kT p.2))
    (hf : iS P t len (parts.map fun p => (p.1, ev p.2)) h = some (v, h')) :
    pA P B w0 ρ S h w v h' ((Instr.buildSlice t len (parts.map fun p => (p.1, kT p.2))).run P w) := by
  unfold iS at hf; split at hf
  . rename_i e hd; split at hf
    . rename_i i hi
      cases hlen : Nat.beq len 0 with
      | true =>
        rw [hlen] at hf; simp only [cond_true] at hf; obtain ⟨hpe, hf⟩ := aT hf; have rY := bU hlen; subst rY; simp only [Option.some.injEq, Prod.mk.injEq] at hf; obtain ⟨rfl, rfl⟩ := hf
        have hp : parts = #[] := by
          rw [Array.toList_map] at hpe
          cases parts with
          | mk l => cases l with
            | nil => rfl
            | cons a b => simp at hpe
        subst hp; have := DJ hr hi 0 (cs := []) (cur := #[]) LR.nil (by simp); unfold Instr.buildSlice; simp only [Sem.run_bind, run_underlying hd, Result.andThen_ok, eM e i hi]; have r0 : Array.range 0 = #[] := rfl
        simpa [Instr.fill, newRow, r0] using this
      | false =>
        rw [hlen] at hf; simp only [cond_false] at hf; split at hf
        . rename_i z hz; obtain ⟨hc, hf⟩ := aT hf; obtain ⟨hc, jO⟩ := b6 hc; obtain ⟨hc, DI⟩ := b6 hc; obtain ⟨hle, dJ⟩ := b6 hc; have hle := fP hle; have dJ := jP dJ; split at hf
          . rename_i cells dD; simp only [Option.some.injEq, Prod.mk.injEq] at hf; obtain ⟨rfl, rfl⟩ := hf; have ad7 : len ≠ 0 := gA hlen
            have cM : ¬ len * i.size = 0 := by
              intro e0; rcases Nat.mul_eq_zero.1 e0 with h | h <;> omega
            rw [Array.toList_map] at dD jO
            have ajJ : ∀ p ∈ parts.toList, (ev p.2).cells.toList.all aU = true := fun p hp => by
              have := List.all_eq_true.1 jO (p.1, ev p.2) (List.mem_map_of_mem hp); exact this
            have ajK : LR ρ S ((Array.range (len * i.size)).map (z.cells[· % z.cells.size]!)).toList ((Array.range (len * i.size)).map (z.cells[· % z.cells.size]!)).toList :=
              LR.zQ fun v hv => by
                rw [Array.toList_map] at hv; obtain ⟨k, _, rfl⟩ := List.mem_map.1 hv; exact af0_get! _ DI _
            obtain ⟨NS, h1, h2⟩ := DG (ρ := ρ) (S := S) _ ev kT parts.toList _ _ cells hv ajJ ajK dD; have DK := JQ _ _ _ _ h1; have := DJ hr hi len (cs := cells.toList) (cur := NS) h2 (by rw [DK]; simp); unfold Instr.buildSlice; simp only [Sem.run_bind, run_underlying hd, Result.andThen_ok, eM e i hi, Array.toList_map]; rw [if_neg (by omega)]; rw [if_neg cM]; simp only [Sem.run_bind, gO e i z hi hz, Result.andThen_ok, Sem.run_pure, h1]; simpa [newRow] using this
          cases hf
        cases hf
    cases hf
  cases hf
theorem FR (z : Value) (n : Nat) : (fG z n).toArray = (Array.range (n * z.cells.size)).map (z.cells[· % z.cells.size]!) := by
  unfold fG; apply Array.toList_inj.1; simp
theorem MU {t : TypeId} {l c l' c' v : Value} (hr : HR P ρ S B w0 h w) (hl : VR ρ S l l') (hcv : VR ρ S c c') (hf : p6 P t l c h = some (v, h')) :
    pA P B w0 ρ S h w v h' ((Instr.makeSlice t l' c').run P w) := by
  unfold p6 at hf; split at hf
  . rename_i e ln cn hd; obtain rfl := hl.r4; obtain rfl := hcv.r4; split at hf
    . rename_i i hi; split at hf
      . rename_i z hz; obtain ⟨hc, hf⟩ := aT hf; obtain ⟨hc, DI⟩ := b6 hc; obtain ⟨hc, wI⟩ := b6 hc; obtain ⟨hc, dJ⟩ := b6 hc; obtain ⟨hc, xU⟩ := b6 hc; obtain ⟨hc, MV⟩ := b6 hc; obtain ⟨h0, hlc⟩ := b6 hc; have h0 := of_decide_eq_true h0; have hlc := of_decide_eq_true hlc; have MV := of_decide_eq_true MV; have xU := fP xU; have dJ := jP dJ; have wI := bU wI; simp only [Option.some.injEq, Prod.mk.injEq] at hf; obtain ⟨rfl, rfl⟩ := hf; have w1 : IntKind.i64.wrap ln = ln := rX h0 (by omega); have w2 : IntKind.i64.wrap cn = cn := rX (by omega) MV; obtain ⟨lN, rfl⟩ := Int.eq_ofNat_of_zero_le h0; obtain ⟨cN, rfl⟩ := Int.eq_ofNat_of_zero_le (show 0 <= cn by omega); simp only [Int.toNat_natCast] at xU ⊢
        have anS : ((i.bytes : Int) * (cN : Int)) <= 1099511627776 := by
          have : ((i.bytes * cN : Nat) : Int) <= 1099511627776 := by omega
          simpa using this
        have n1 : ¬ ((cN : Int) < 0) := by omega
        have n2 : ¬ (281474976710656 < (i.bytes : Int) * (cN : Int)) := by omega
        have n3 : ¬ ((lN : Int) < 0) := by omega
        have n4 : ¬ cN < lN := by omega
        have r0 : Array.range 0 = #[] := rfl; unfold Instr.makeSlice; simp only [Sem.run_bind, run_underlying hd, Result.andThen_ok, asInt, asIntOf, Sem.run_pure, qT e i hi, w1, w2]
        have hm := wG hr e (cs := fG z cN) (cur := fG z cN) false (Nat.le_refl _) (fun _ => rfl)
          (LR.zQ (ρ := ρ) (S := S) fun v hv => by
            obtain ⟨k, _, rfl⟩ := List.mem_map.1 hv
            exact af0_get! _ DI _).2
        have rM : pA P B w0 ρ S h w (.slice (some ⟨h.next, 0, none⟩) lN 0) (h.push (.row e (fG z cN) true false)) (.ok (.slice (some ⟨w.heap.size, 0, none⟩) lN cN) (w.alloc (.cells (fG z cN).toArray e))) :=
          ⟨_, _, _, rfl, hm, qD hr.pos lN cN _ rfl (by omega) (by simp [iU hi, fG, wI]) _ (Ext.lM _)⟩
        rw [FR, wI] at rM; by_cases hn : cN * i.size = 0
        . have MW : cN = 0 := by
            rcases Nat.mul_eq_zero.1 hn with h | h <;> omega
          subst MW
          have l0 : lN = 0 := by omega
          subst l0; simpa [eM e i hi, newRow, r0] using rM
        simpa [n1, n2, n3, n4, eM e i hi, newRow, hn, wI, gO e i z hi hz] using rM
      cases hf
    cases hf
  cases hf
theorem iV {lo uO : Option Value} {d l : Nat} (hb : eI lo d = some l) (hn : lo = none -> uO = none) (hs : ∀ v, lo = some v -> ∃ v', uO = some v' /\ VR ρ S v v') :
    (lo = none /\ uO = none /\ l = d) \/ ∃ k, lo = some (.int k l) /\ uO = some (.int k l) := by
  unfold eI at hb; split at hb
  . simp only [Option.some.injEq] at hb; exact .inl ⟨rfl, hn rfl, hb.symm⟩
  . rename_i k i; split at hb
    . rename_i hi; simp only [Option.some.injEq] at hb; obtain ⟨v', h1, h2⟩ := hs _ rfl; obtain rfl := h2.r4; obtain ⟨n, rfl⟩ := Int.eq_ofNat_of_zero_le hi; rw [Int.toNat_natCast] at hb; subst hb; exact .inr ⟨k, rfl, h1⟩
    cases hb
  cases hb
theorem eR (k : IntKind) (l y : Nat) (code : BoundsCode) (hl : l <= y) (w : World) : (Instr.sliceBound (.int k l) y code).run P w = .ok l w := by
  have h0 : (0 : Int) <= (l : Int) /\ (l : Int) <= (y : Int) := by omega
  simp only [Instr.sliceBound, asIntOf, Sem.run_bind, Sem.run_pure, Result.andThen_ok]; rw [if_pos h0]; simp
theorem PN {n c l k : Nat} {kl kh km : IntKind} {uO : Option Value} (MX : Bool) (hl : uO = none /\ l = 0 \/ uO = some (.int kl l)) (y9 : l <= k) (S9 : k <= c) (w : World) :
    (Instr.sliceBounds MX n c uO (some (.int kh k)) (some (.int km k))).run P w = .ok (l, k, k) w := by
  unfold Instr.sliceBounds; rcases hl with ⟨rfl, rfl⟩ | rfl
  . cases MX <;> simp [eR km k c _ S9, eR kh k k _ (Nat.le_refl _)]
  cases MX <;> simp [eR km k c _ S9, eR kh k k _ (Nat.le_refl _), eR kl l k _ y9]
def OR (ρ : Ren) (S : Nat -> Prop) (a a' : Option Value) : Prop := (a = none -> a' = none) /\ ∀ v, a = some v -> ∃ v', a' = some v' /\ VR ρ S v v'
theorem OR.of_map {x : Option Operand} {ev kT : Operand -> Value} (h : ∀ o, x = some o -> VR ρ S (ev o) (kT o)) : OR ρ S (x.map ev) (x.map kT) := by
  cases x with
  | none => exact ⟨fun _ => rfl, fun v hv => (by cases hv)⟩
  | some o => exact ⟨fun hv => (by cases hv), fun v hv => by simp at hv; subst hv; exact ⟨_, rfl, h o rfl⟩⟩
theorem OR.dR {a a' : Option Value} (h : OR ρ S a a') (ha : a.all af = true) : a' = a := by
  cases a with
  | none => exact h.1 rfl
  | some v =>
    obtain ⟨v', h1, h2⟩ := h.2 v rfl; rw [h1, h2.dR (by simpa using ha)]
theorem H3 {lo hi uO dI : Option Value} {n c l k : Nat} (MX : Bool) (uL : OR ρ S lo uO) (MY : OR ρ S hi dI) (h1 : eI lo 0 = some l) (h2 : eI hi n = some k) (y9 : l <= k) (S9 : k <= c) (w : World) :
    (Instr.sliceBounds MX n c uO dI none).run P w = .ok (l, k, c) w := by
  have a1 := iV h1 uL.1 uL.2; have a2 := iV h2 MY.1 MY.2; unfold Instr.sliceBounds; rcases a2 with ⟨_, rfl, rfl⟩ | ⟨k2, _, rfl⟩
  . rcases a1 with ⟨_, rfl, rfl⟩ | ⟨k1, _, rfl⟩
    . simp
    simp [eR k1 l k .sliceB y9]
  rcases a1 with ⟨_, rfl, rfl⟩ | ⟨k1, _, rfl⟩
  . cases MX <;> simp [eR k2 k c _ S9]
  cases MX <;> simp [eR k2 k c _ S9, eR k1 l k .sliceB y9]
theorem NU {b o n c l k mk mk' size : Nat} {A : Addr} (hn : n <= c) (h0 : b = 0 -> n = 0) (hb : b ≠ 0 -> S b /\ A = (ρ b).at o /\ (mk = 0 -> o + c * (ρ b).BZ = (ρ b).total)) (y9 : l <= k) (S9 : k <= c)
    (iY : b = 0 -> k = 0) (h1 : mk' = 1 -> c = k) (h2 : mk' = 0 -> l ≠ 0 -> b ≠ 0 -> (ρ b).BZ = size /\ mk = 0) (h3 : mk' = 0 -> mk = 0) :
    VR ρ S (cutAt size b o l k mk') (.slice (if c = l then some A else (some A).map (·.add (l * size))) (k - l) (c - l)) := by
  unfold cutAt
  have ajL : (if c = l then some A else (some A).map (·.add (l * size))) = some (if c = l then A else A.add (l * size)) := by split <;> rfl
  rw [ajL]
  cases hc : (Nat.blt l k || Nat.beq l 0) with
  | false =>
    simp only [cond_false]
    have bL : ¬ l < k := fun h => by
      have : Nat.blt l k = true := Nat.ble_eq_true_of_le h; simp [this] at hc
    rw [show k - l = 0 by omega]
    exact .slice 0 0 0 2 _ _ (Nat.zero_le _) (fun e => by cases e) (fun _ => rfl) (fun e => absurd rfl e)
  | true =>
    simp only [cond_true]; refine .slice b _ (k - l) mk' (c - l) _ (by omega) (fun e => by have := h1 e; omega) (fun e => by have := iY e; omega) fun cM => ?_; obtain ⟨hs, hA, nS⟩ := hb cM; refine ⟨hs, ?_, fun e => ?_⟩
    . subst hA; by_cases rY : l = 0
      . subst rY; simp [Addr.add]
      have bL : l < k := by
        rcases Bool.or_eq_true_iff.1 hc with h | h
        . exact jP h
        exact absurd (bU h) rY
      rw [if_neg (by omega), Loc.tV]
    by_cases rY : l = 0
    . subst rY; simpa using nS (h3 e)
    obtain ⟨h4, h5⟩ := h2 e rY cM; have h6 := nS h5; rw [h4] at h6 ⊢; rw [<- h6, Nat.add_assoc, <- Nat.add_mul]; congr 2; omega
theorem aaL {t : TypeId} {x x' v : Value} {lo hi mx uO dI mx' : Option Value} (hr : HR P ρ S B w0 h w) (hx : VR ρ S x x') (uL : OR ρ S lo uO) (MY : OR ρ S hi dI) (AK : OR ρ S mx mx')
    (hf : dN P t x lo hi mx h = some v) : ∃ v', (Instr.sliceAt t x' uO dI mx').run P w = .ok v' w /\ VR ρ S v v' := by
  unfold dN at hf; split at hf
  . obtain ⟨hc, hf⟩ := aT hf; obtain ⟨hc, hm⟩ := b6 hc; obtain ⟨hc, hh⟩ := b6 hc; obtain ⟨ha, hl⟩ := b6 hc; rw [hx.dR ha, uL.dR hl, MY.dR hh, AK.dR hm]; rw [Option.bind_eq_some_iff] at hf; obtain ⟨u, hu, hf⟩ := hf; obtain ⟨JS, hf⟩ := aT hf; simp only [Option.some.injEq] at hf; subst hf; exact ⟨u, cD hu w, .mJ JS⟩
  . rename_i elem hd
    have FP : (Instr.sliceAt t x' uO dI mx').run P w = (Instr.slice t x' uO dI mx').run P w := by
      unfold Instr.sliceAt; simp only [Sem.run_bind, run_underlying hd, Result.andThen_ok]
    rw [FP]; split at hf
    . obtain rfl := hx.iT; split at hf
      . rename_i hl hh hm; obtain ⟨hmh, hf⟩ := aT hf; rw [Option.map_eq_some_iff] at hf; obtain ⟨i, hi, rfl⟩ := hf; have b1 := iV hl uL.1 uL.2; have b2 := iV hh MY.1 MY.2; have b3 := iV hm AK.1 AK.2; refine ⟨.slice none 0 0, ?_, .lit rfl⟩; have hsb : ∀ (k : IntKind) (code : BoundsCode), (Instr.sliceBound (.int k 0) 0 code).run P w = .ok 0 w := fun k code => eR (P := P) k 0 0 code (Nat.le_refl _) w; unfold Instr.slice Instr.sliceBounds; simp only [Sem.run_bind, run_underlying hd, Result.andThen_ok, eM elem i hi]; rcases b3 with ⟨_, rfl, _⟩ | ⟨k3, _, rfl⟩ <;> rcases b2 with ⟨_, rfl, _⟩ | ⟨k2, _, rfl⟩ <;> rcases b1 with ⟨_, rfl, _⟩ | ⟨k1, _, rfl⟩ <;> simp_all [hsb]
      cases hf
    . rename_i b o n mk; obtain ⟨A, c, rfl, hn, IC, h0, hb⟩ := hx.iB; split at hf
      . rename_i i l k hi hl hh; split at hf
        . obtain rfl := AK.1 rfl
          have key : ∀ mk', l <= k -> k <= c -> (b = 0 -> k = 0) -> (mk' = 1 -> c = k) -> (mk' = 0 -> l ≠ 0 -> b ≠ 0 -> (ρ b).BZ = i.size /\ mk = 0) -> (mk' = 0 -> mk = 0) -> v = cutAt i.size b o l k mk' ->
              ∃ v', (Instr.slice t (.slice (some A) n c) uO dI none).run P w = .ok v' w /\ VR ρ S v v' := fun mk' h1 h2 h3 h4 h5 h6 e => by
            subst e; unfold Instr.slice; simp only [Sem.run_bind, run_underlying hd, Result.andThen_ok, eM elem i hi, H3 (P := P) true uL MY hl hh h1 h2 w, Sem.run_pure]; exact ⟨_, rfl, NU hn h0 hb h1 h2 h3 h4 h5 h6⟩
          cases wJ : (Nat.ble l k && Nat.ble k n) with
          | true =>
            rw [wJ] at hf; simp only [cond_true, Option.some.injEq] at hf; obtain ⟨a1, a2⟩ := b6 wJ; have a1 := fP a1; have a2 := fP a2; refine key _ a1 (by omega) (fun e => by have := h0 e; omega) ?_ ?_ ?_ hf.symm
            . intro e
              cases hm : Nat.beq mk 1 with
              | true =>
                rw [hm] at e; simp only [cond_true] at e
                cases hk : Nat.beq k n with
                | true => have := bU hk; have := IC (bU hm); omega
                | false => rw [hk] at e; cases e
              | false =>
                rw [hm] at e; simp only [cond_false, mX] at e; exfalso
                revert e
                cases Nat.beq l 0
                . cases fS : Nat.beq mk 0
                  . simp
                  simp only [cond_false, cond_true]; split
                  . rename_i e2 _ _ _ _; cases Nat.beq e2 elem <;> simp
                  simp
                simp only [cond_true]; intro e; subst e; cases hm
            . intro e rY cM
              cases hm : Nat.beq mk 1 with
              | true =>
                rw [hm] at e; simp only [cond_true] at e
                cases hk : Nat.beq k n <;> rw [hk] at e <;> cases e
              | false =>
                rw [hm] at e; simp only [cond_false, mX, eD rY] at e
                cases fS : Nat.beq mk 0 with
                | false => rw [fS] at e; cases e
                | true =>
                  rw [fS] at e; simp only [cond_true] at e; split at e
                  . rename_i e2 cs own more hg
                    cases he : Nat.beq e2 elem with
                    | false => rw [he] at e; cases e
                    | true =>
                      have hee := bU he; subst hee; exact ⟨((hr.aB b _ hg).2.BZ).trans (iU hi), bU fS⟩
                  cases e
            intro e
            cases hm : Nat.beq mk 1 with
            | true =>
              rw [hm] at e; simp only [cond_true] at e
              cases hk : Nat.beq k n <;> rw [hk] at e <;> cases e
            | false =>
              rw [hm] at e; simp only [cond_false, mX] at e
              cases rY : Nat.beq l 0 with
              | true => rw [rY] at e; exact e
              | false =>
                rw [rY] at e; simp only [cond_false] at e
                cases fS : Nat.beq mk 0 with
                | false => rw [fS] at e; cases e
                | true => exact bU fS
          | false =>
            rw [wJ] at hf; simp only [cond_false] at hf; obtain ⟨nT, dU⟩ := aT hf; clear hf; obtain ⟨y9, mE⟩ := b6 nT; have y9 := jP y9; obtain rfl := bU mE; split at dU
            . rename_i e2 cs more hg; obtain ⟨DL, hf⟩ := aT dU; clear dU; obtain ⟨hc4, hle⟩ := b6 DL; obtain ⟨he, dJ⟩ := b6 hc4; have hle := fP hle; have dJ := jP dJ; obtain rfl := bU he; simp only [Option.some.injEq] at hf; have nE := (hr.aB b _ hg).2; have H4 := (nE.BZ).trans (iU hi); obtain ⟨cur, _, _, ht, _, hlc, _⟩ := nE; have iY : b ≠ 0 := (hr.ids b (hr.aB b _ hg).1).2; obtain ⟨hS, hA, nS⟩ := hb iY; have nS := nS rfl
              have S9 : k <= c := by
                rw [H4] at nS
                have h1 : k * i.size <= c * i.size := by omega
                exact Nat.le_of_mul_le_mul_right h1 dJ
              exact key 0 (by omega) S9 (fun e => absurd e iY) (fun e => by cases e) (fun _ _ _ => ⟨H4, rfl⟩) (fun _ => rfl) hf.symm
            cases dU
        split at hf
        . rename_i hv m hm; obtain ⟨hc, dU⟩ := aT hf; clear hf; obtain ⟨nT, hkn⟩ := b6 hc; obtain ⟨y9, hkm⟩ := b6 nT; have hkn := fP hkn; have y9 := fP y9; obtain rfl := bU hkm; simp only [Option.some.injEq] at dU; subst dU; rcases iV hh MY.1 MY.2 with ⟨h1, _⟩ | ⟨kh, _, rfl⟩
          . cases h1
          rcases iV hm AK.1 AK.2 with ⟨h1, _⟩ | ⟨km, _, rfl⟩
          . cases h1
          have ad8 : ∃ kl, uO = none /\ l = 0 \/ uO = some (.int kl l) := by
            rcases iV hl uL.1 uL.2 with ⟨_, h1, h2⟩ | ⟨kl, _, h1⟩
            . exact ⟨.i64, .inl ⟨h1, h2⟩⟩
            exact ⟨kl, .inr h1⟩
          obtain ⟨kl, ad8⟩ := ad8; unfold Instr.slice; simp only [Sem.run_bind, run_underlying hd, Result.andThen_ok, eM elem i hi, PN (P := P) true ad8 y9 (show k <= c by omega) w, Sem.run_pure]; refine ⟨_, rfl, ?_⟩
          have := NU (ρ := ρ) (S := S) (b := b) (o := o) (n := k) (c := k) (l := l) (k := k) (mk := 1) (mk' := 1) (size := i.size) (A := A) (Nat.le_refl _) (fun e => by have := h0 e; omega)
            (fun e => ⟨(hb e).1, (hb e).2.1, fun e => by cases e⟩) y9 (Nat.le_refl _) (fun e => by have := h0 e; omega) (fun _ => rfl) (fun e => by cases e) (fun e => by cases e)
          simpa using this
        cases hf
      cases hf
    cases hf
  . rename_i n elem hd; split at hf
    . rename_i b o; obtain ⟨hs, rfl⟩ := hx.sI; split at hf
      . rename_i i l k hi hl hh; obtain rfl := AK.1 rfl; obtain ⟨hc, dU⟩ := aT hf; clear hf; obtain ⟨y9, hkn⟩ := b6 hc; have y9 := jP y9; obtain rfl := bU hkn; simp only [Option.some.injEq] at dU; subst dU; unfold Instr.sliceAt; simp only [Sem.run_bind, run_underlying hd, Result.andThen_ok, Instr.sureAddr, Sem.run_pure, eM elem i hi, H3 (P := P) false uL MY hl hh (Nat.le_of_lt y9) (Nat.le_refl _) w]; refine ⟨_, rfl, ?_⟩; rw [if_neg (by omega), Loc.tV]; have iY : b ≠ 0 := (hr.ids b hs).2; exact .slice b _ _ 1 _ _ (Nat.le_refl _) (fun _ => rfl) (fun e => absurd e iY) (fun _ => ⟨hs, rfl, fun e => by cases e⟩)
      cases hf
    cases hf
  cases hf
end Go.Fs
namespace Go.Fs
open Go.RowKit (Below)
variable {P : Program} {ρ bT : Ren} {S S' : Nat -> Prop} {B : Nat} {w0 w w' w1 w2 : World} {h h' h1 h2 : aA}
theorem SA {x x' : Value} {m : Nat} (hx : VR ρ S x x') (hl : q4 x = some m) (w : World) : (Builtin.lenOf x').run P w = .ok m w := by
  unfold q4 at hl; split at hl
  . simp only [Option.some.injEq] at hl; subst hl
    cases hx with
    | lit h =>
      rename_i a n c
      cases a with
      | none => rfl
      | some a => simp [eF] at h
    | slice b o n m c A hn hm h0 hb => rfl
  . simp only [Option.some.injEq] at hl; subst hl; obtain rfl := hx.r5; rfl
  cases hl
theorem yA {size n : Nat} {x x' : Value} {vs : List Value} (hr : HR P ρ S B w0 h w) (hx : VR ρ S x x') (hc : cellsOf size n x h = some vs) :
    ∃ gV : List Value, (Builtin.firstCells size n x').run P w = .ok gV.toArray w /\ LR ρ S vs gV := by
  unfold cellsOf at hc; split at hc
  . obtain rfl := hx.iT; obtain ⟨hn, hc⟩ := aT hc; simp only [Option.some.injEq] at hc; subst hc; exact ⟨[], rfl, LR.nil⟩
  . rename_i b o k mk; obtain ⟨A, c, rfl, hn, hm, h0, hb⟩ := hx.iB; obtain ⟨hnk, nT⟩ := aT hc; clear hc; have hnk := fP hnk
    cases hz : Nat.beq (n * size) 0 with
    | true =>
      rw [hz] at nT; simp only [cond_true, Option.some.injEq] at nT; subst nT; refine ⟨[], ?_, LR.nil⟩; unfold Builtin.firstCells; rw [bU hz]
      rfl
    | false =>
      rw [hz] at nT; simp only [cond_false] at nT; split at nT
      . rename_i e cs own more hg; obtain ⟨hle, DL⟩ := aT nT; clear nT; have hle := fP hle; simp only [Option.some.injEq] at DL; subst DL; have nE := (hr.aB b _ hg).2; have iY : b ≠ 0 := (hr.ids b (hr.aB b _ hg).1).2; obtain ⟨_, rfl, _⟩ := hb iY; exact qU (fun i hi => nE.cell hi) hle
      cases nT
  . rename_i s; obtain rfl := hx.r5; simp only [Option.some.injEq] at hc; subst hc; refine ⟨_, ?_, LR.zQ fun v hv => ?_⟩
    . unfold Builtin.firstCells; rw [Array.toArray_toList]; rfl
    rw [Array.toList_map] at hv; obtain ⟨u, _, rfl⟩ := List.mem_map.1 hv; rfl
  cases hc
theorem ad9 {argTypes : Array TypeId} {ty : TypeId} {d x d' x' v : Value} (hr : HR P ρ S B w0 h w) (hd : VR ρ S d d') (hx : VR ρ S x x') (hf : rT P argTypes d x h = some (v, h')) :
    pA P B w0 ρ S h w v h' ((Builtin.copy_ argTypes ty #[d', x']).run P w) := by
  unfold rT at hf; split at hf
  . rename_i dt hdt; split at hf
    . rename_i e VT; split at hf
      . rename_i i m k hi hm hk; split at hf
        . rename_i vs y4; obtain ⟨hc, dU⟩ := aT hf; clear hf; obtain ⟨PO, jO⟩ := b6 hc; have PO := bU PO; obtain ⟨gV, hfc, hlr⟩ := yA hr hx y4; have hlen := SA (P := P) hx hm w; unfold Builtin.copy_; simp only [hdt, List.getElem?_toArray, List.getElem?_cons_zero, List.getElem?_cons_succ]; split at dU
          . obtain rfl := hd.iT; simp only [q4, Option.some.injEq] at hk; subst hk; simp only [Option.some.injEq, Prod.mk.injEq] at dU; obtain ⟨rfl, rfl⟩ := dU; simp only [Sem.run_bind, run_underlying VT, Result.andThen_ok, hlen, eM e i hi, hfc]; exact pA.pure hr (.lit rfl)
          . rename_i b o kk mk; obtain ⟨A, c, rfl, hn, IC, h0, hb⟩ := hd.iB; simp only [q4, Option.some.injEq] at hk; subst hk
            cases hz : Nat.beq (Nat.min m kk * i.size) 0 with
            | true =>
              rw [hz] at dU; simp only [cond_true, Option.some.injEq, Prod.mk.injEq] at dU; obtain ⟨rfl, rfl⟩ := dU; have : gV = [] := List.eq_nil_of_length_eq_zero (by rw [<- hlr.1, PO, bU hz]); subst this; simp only [Sem.run_bind, run_underlying VT, Result.andThen_ok, hlen, eM e i hi, hfc, storeCells, Sem.run_pure]
              exact pA.pure hr (.lit rfl)
            | false =>
              rw [hz] at dU; simp only [cond_false] at dU; split at dU
              . rename_i e' cs more hg; obtain ⟨hle, tN⟩ := aT dU; clear dU; have hle := fP hle; simp only [Option.some.injEq, Prod.mk.injEq] at tN; obtain ⟨rfl, rfl⟩ := tN; have iY : b ≠ 0 := (hr.ids b (hr.aB b _ hg).1).2; obtain ⟨_, rfl, _⟩ := hb iY; obtain ⟨w2, h1, h2⟩ := pB (o := o) hr hg hlr jO (by omega); simp only [Sem.run_bind, run_underlying VT, Result.andThen_ok, hlen, eM e i hi, hfc, h1, Sem.run_pure]; exact ⟨ρ, w2, _, rfl, h2, .lit rfl⟩
              cases dU
          cases dU
        cases hf
      cases hf
    cases hf
  cases hf
theorem aaM {argTypes : Array TypeId} {ty : TypeId} {x x' : Value} (hr : HR P ρ S B w0 h w) (hx : VR ρ S x x') (hf : qY P argTypes x h = some h') :
    pA P B w0 ρ S h w (.tuple #[]) h' ((Builtin.clear_ argTypes ty #[x']).run P w) := by
  unfold qY at hf; split at hf
  . rename_i dt hdt; split at hf
    . rename_i e VT; unfold Builtin.clear_; simp only [hdt, List.getElem?_toArray, List.getElem?_cons_zero]; split at hf
      . obtain rfl := hx.iT; obtain rfl := Option.some.inj hf; simp only [Sem.run_bind, run_underlying VT, Result.andThen_ok, Sem.run_pure]; exact pA.pure hr VR.undef
      . rename_i b o n mk; obtain ⟨A, c, rfl, hn, IC, h0, hb⟩ := hx.iB
        cases hz : Nat.beq n 0 with
        | true =>
          rw [hz] at hf; simp only [cond_true, Option.some.injEq] at hf; subst hf; obtain rfl := bU hz
          cases A <;> simp only [Sem.run_bind, run_underlying VT, Result.andThen_ok, Sem.run_pure] <;> exact pA.pure hr VR.undef
        | false =>
          rw [hz] at hf; simp only [cond_false] at hf; split at hf
          . rename_i i e' cs more hi hg; split at hf
            . rename_i z hzv; obtain ⟨hc, tN⟩ := aT hf; clear hf; obtain ⟨pW, hle⟩ := b6 hc; have hle := fP hle; obtain rfl := Option.some.inj tN; have iY : b ≠ 0 := (hr.ids b (hr.aB b _ hg).1).2; obtain ⟨_, rfl, _⟩ := hb iY
              have hn0 : n ≠ 0 := fun e => by subst e; cases hz
              obtain ⟨w2, h1, h2⟩ := pB (o := o) hr hg (LR.zQ fun v hv => List.all_eq_true.1 pW v hv) (List.all_eq_true.2 fun v hv => (by have := List.all_eq_true.1 pW v hv; cases v <;> first | rfl | simp_all [eF, aU])) (by omega)
              have h3 : (Builtin.zeroCells z.cells n).toList = fG z n := by
                exact congrArg Array.toList (FR z n).symm
              cases n with
              | zero => exact absurd rfl hn0
              | succ n =>
                simp only [Sem.run_bind, run_underlying VT, Result.andThen_ok, gO e i z hi hzv, h3, h1, Sem.run_pure]; exact ⟨ρ, w2, _, rfl, h2, VR.undef⟩
            cases hf
          cases hf
      cases hf
    cases hf
  cases hf
theorem agY {argTypes : Array TypeId} {ty : TypeId} {x x' v : Value} (hr : HR P ρ S B w0 h w) (hx : VR ρ S x x') (hf : kI P argTypes x h = some v) :
    ∃ v', (Builtin.len_ argTypes ty #[x']).run P w = .ok v' w /\ VR ρ S v v' := by
  have key : ∀ d, (argTypes[0]?).bind P.underlying = some d -> ∃ t, argTypes[0]? = some t /\ P.underlying t = some d := fun d hd => by
    rwa [Option.bind_eq_some_iff] at hd
  unfold kI at hf; unfold Builtin.len_; split at hf
  . rename_i b; obtain ⟨hs, rfl⟩ := hx.y8; split at hf
    . rename_i es clock hu hg; obtain ⟨t, h1, h2⟩ := key _ hu; simp only [Option.some.injEq] at hf; subst hf; obtain ⟨_, eL, h3, h4, _⟩ := hr.aB b _ hg; simp only [h1, List.getElem?_toArray, List.getElem?_cons_zero, Sem.run_bind, run_underlying h2, Result.andThen_ok]; simp only [getObj, Sem.run, h3, Result.andThen_ok]; refine ⟨_, rfl, ?_⟩; rw [show (eL.toArray.size : Int) = (es.length : Int) by simp [h4]]; exact .lit rfl
    cases hf
  . rename_i a n c; split at hf
    . rename_i el hu; obtain ⟨t, h1, h2⟩ := key _ hu; simp only [Option.some.injEq] at hf; subst hf
      have : ∃ A C, x' = .slice A n C := by
        cases hx with
        | lit h => exact ⟨_, _, rfl⟩
        | slice b o n m c A hn hm h0 hb => exact ⟨_, _, rfl⟩
      obtain ⟨A, C, rfl⟩ := this; simp only [h1, List.getElem?_toArray, List.getElem?_cons_zero, Sem.run_bind, run_underlying h2, Result.andThen_ok, Sem.run_pure]; exact ⟨_, rfl, .lit rfl⟩
    cases hf
  . rename_i s; split at hf
    . rename_i hu; obtain ⟨t, h1, h2⟩ := key _ hu; simp only [Option.some.injEq] at hf; subst hf; obtain rfl := hx.r5; simp only [h1, List.getElem?_toArray, List.getElem?_cons_zero, Sem.run_bind, run_underlying h2, Result.andThen_ok, Sem.run_pure]; exact ⟨_, rfl, .lit rfl⟩
    cases hf
  . split at hf
    . rename_i k el hu; obtain ⟨t, h1, h2⟩ := key _ hu; simp only [Option.some.injEq] at hf; subst hf; obtain rfl := hx.iA rfl; simp only [h1, List.getElem?_toArray, List.getElem?_cons_zero, Sem.run_bind, run_underlying h2, Result.andThen_ok, Sem.run_pure]; exact ⟨_, rfl, .lit rfl⟩
    cases hf
  cases hf
theorem agZ {argTypes : Array TypeId} {ty : TypeId} {x x' v : Value} (hr : HR P ρ S B w0 h w) (hx : VR ρ S x x') (hf : JB P argTypes x h = some v) :
    ∃ v', (Builtin.cap_ argTypes ty #[x']).run P w = .ok v' w /\ VR ρ S v v' := by
  have key : ∀ d, (argTypes[0]?).bind P.underlying = some d -> ∃ t, argTypes[0]? = some t /\ P.underlying t = some d := fun d hd => by
    rwa [Option.bind_eq_some_iff] at hd
  unfold JB at hf; unfold Builtin.cap_; split at hf
  . rename_i e b o n mk hu; obtain ⟨t, h1, h2⟩ := key _ hu; obtain ⟨A, c, rfl, hn, hm, h0, hb⟩ := hx.iB; simp only [h1, List.getElem?_toArray, List.getElem?_cons_zero, Sem.run_bind, run_underlying h2, Result.andThen_ok, Sem.run_pure]
    cases mE : Nat.beq mk 1 with
    | true =>
      rw [mE] at hf; simp only [cond_true, Option.some.injEq] at hf; subst hf; rw [hm (bU mE)]
      exact ⟨_, rfl, .lit rfl⟩
    | false =>
      rw [mE] at hf; simp only [cond_false] at hf; split at hf
      . rename_i i e' cs hi hg; obtain ⟨hc, dU⟩ := aT hf; clear hf; obtain ⟨wJ, hm0⟩ := b6 hc; obtain ⟨nT, hoc⟩ := b6 wJ; obtain ⟨he, dJ⟩ := b6 nT; have dJ := jP dJ; obtain rfl := bU he; simp only [Option.some.injEq] at dU; subst dU; have nE := (hr.aB b _ hg).2; have H4 := nE.BZ.trans (iU hi); obtain ⟨cur, _, _, ht, _, _, fS, _⟩ := nE; have iY : b ≠ 0 := (hr.ids b (hr.aB b _ hg).1).2; obtain ⟨_, _, nS⟩ := hb iY; have nS := nS (bU hm0); have hl := fS rfl; rw [H4] at nS
        have : (cs.length - o) / i.size = c := by
          rw [show cs.length - o = c * i.size by omega]; exact Nat.mul_div_cancel c dJ
        rw [this]; exact ⟨_, rfl, .lit rfl⟩
      cases hf
  . rename_i e hu; obtain ⟨t, h1, h2⟩ := key _ hu; obtain rfl := hx.iT; simp only [Option.some.injEq] at hf; subst hf; simp only [h1, List.getElem?_toArray, List.getElem?_cons_zero, Sem.run_bind, run_underlying h2, Result.andThen_ok, Sem.run_pure]; exact ⟨_, rfl, .lit rfl⟩
  cases hf
theorem JT (IX : Nat) : ∀ (r c : Nat), c <= 2 * IX + 192 -> Builtin.growBy IX r c <= 2 * IX + 192
  | 0, c, h => h
  | r + 1, c, h => by
    unfold Builtin.growBy; split
    . exact h
    exact JT IX r _ (by omega)
theorem nextslicecap_le (xK cap : Nat) (h : cap < xK) : Builtin.nextslicecap xK cap <= 2 * xK + 192 := by
  unfold Builtin.nextslicecap; split
  . omega
  split
  . omega
  exact JT xK 4 cap (by omega)
theorem DM {e : TypeId} {i : TypeInfo} {z x x' : Value} {made : Bool} {m : Nat} {news : List Value} (hi : P.info? e = some i) (hz : i.zero = some z) (wI : z.cells.size = i.size) (dJ : 0 < i.size)
    (hr : HR P ρ S B w0 h w) (hx : VR ρ S x x') (hf : fZ i z made x h = some (m, news)) :
    ∃ adA : List Value, LR ρ S news adA /\
      ((if made = true then do
          let l := IntKind.i64.wrap (<- asInt x')
          if l < 0 then runtimePanic (.error "makeslice: len out of range")
          if l * (<- typeInfo e).bytes > 2 ^ 48 then
            let made <- choose (.extern "append.ofMake.carriedOut" 2)
            runtimePanic (.error (if made == 1 then "makeslice: len out of range" else "growslice: len out of range"))
          pure l.toNat
        else Builtin.lenOf x' : Sem Nat).run P w = .ok m w) /\
      ((if !made then Builtin.firstCells i.size m x' else if m * i.size = 0 then pure #[] else do pure (Builtin.zeroCells (<- zeroValue e).cells m) : Sem (Array Value)).run P w = .ok adA.toArray w) := by
  unfold fZ at hf
  cases made with
  | true =>
    simp only [cond_true] at hf; split at hf
    . rename_i l; obtain ⟨hc, dU⟩ := aT hf; clear hf; obtain ⟨wJ, DI⟩ := b6 hc; obtain ⟨nT, xU⟩ := b6 wJ; obtain ⟨h0, h1⟩ := b6 nT; have h0 := of_decide_eq_true h0; have h1 := of_decide_eq_true h1; have xU := fP xU; obtain rfl := hx.r4; obtain ⟨k, rfl⟩ := Int.eq_ofNat_of_zero_le h0; simp only [Int.toNat_natCast, Option.some.injEq, Prod.mk.injEq] at dU xU; obtain ⟨rfl, rfl⟩ := dU; refine ⟨fG z k, LR.zQ fun v hv => ?_, ?_, ?_⟩
      . obtain ⟨q, _, rfl⟩ := List.mem_map.1 hv; exact af0_get! _ DI _
      . have n1 : ¬ ((k : Int) < 0) := by omega
        have rD : ((k : Int) * (i.bytes : Int)) <= 1099511627776 := by
          have : ((k * i.bytes : Nat) : Int) <= 1099511627776 := by omega
          simpa using this
        have n2 : ¬ (281474976710656 < (k : Int) * (i.bytes : Int)) := by omega
        simp [asInt, asIntOf, rX h0 h1, n1, n2, qT e i hi]
      by_cases hk : k * i.size = 0
      . have : k = 0 := by
          rcases Nat.mul_eq_zero.1 hk with h | h <;> omega
        subst this; simp [fG]
      simp [hk, gO e i z hi hz, FR, Builtin.zeroCells]
    cases hf
  | false =>
    simp only [cond_false] at hf; split at hf
    . rename_i k hk; rw [Option.map_eq_some_iff] at hf; obtain ⟨cs, h1, h2⟩ := hf; simp only [Prod.mk.injEq] at h2; obtain ⟨rfl, rfl⟩ := h2; obtain ⟨gV, h3, h4⟩ := yA hr hx h1; exact ⟨gV, h4, by simpa using SA (P := P) hx hk w, by simpa using h3⟩
    cases hf
end Go.Fs
