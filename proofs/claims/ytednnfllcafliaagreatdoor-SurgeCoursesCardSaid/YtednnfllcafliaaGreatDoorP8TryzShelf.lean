/- DERIVED: THE SHELF's CONTRACTS AT THIS DUMP, IN PLAIN WORDS (tools/lay-plain.mjs out of 'TryzShelf.lean', which tools/lay-shelf.mjs wrote): THE SAME DECLARATIONS UNDER THE SAME NAMES: 'import', 'namespace', 'open', 'def', 'theorem' AND NOTHING ELSE: no command of the shelf's: FOR A HAND-IN. Each laying: the table of numbers ('.._ren') and one theorem, a field a fact of the dump's own or the kernel's comparison; each contract: ONE APPLICATION. -/
import Derived.Shelf.Strings.Builder1
import Derived.Shelf.Strings.Builder2
import Derived.Shelf.Strings.OnBuilder
import Derived.Shelf.Small.Bits
import Derived.Shelf.Strconv.Itoa0
import Derived.Shelf.Strconv.Itoa1
import Derived.Shelf.LaysM
import Derived.Shelf.Strconv.Itoa2
import Derived.Shelf.Strconv.Itoa3
import Derived.Shelf.Sort.Plain
import Derived.Ground.Names2Prog
import Derived.Shelf.Slices.CompactI
import Derived.Shelf.Slices.SearchI
import Derived.Shelf.Slices.Cells
import Derived.Shelf.Slices.In.SortNone
import Derived.Ground.SlgnProg
import Derived.Shelf.SlicesE.Clone
import Derived.Test.YtednnfllcafliaaGreatDoorProg
set_option linter.all false
namespace Go.Proofs
open Go.Shelf
def Tryz.lays169_ren : Go.Shelf.Ren := ⟨fun | 169 => 185 | n => n, fun | 70 => 268 | 9 => 9 | 0 => 0 | 72 => 271 | 37 => 269 | 127 => 295 | 3 => 3 | 5 => 5 | n => n, fun | n => n⟩
theorem Tryz.lays169 : Go.Proofs.Lays.n169 Tryz.prog Tryz.lays169_ren := {
  mixed := by kernel_rfl
  f169 := Tryz.func185.trans (congrArg some (by kernel_rfl))
  t0 := Tryz.underlying0
  a0 := Tryz.isAgg0
  z0 := Tryz.sizeOf0
  v0 := Tryz.zeroValue0
  t3 := Tryz.underlying3
  a3 := Tryz.isAgg3
  z3 := Tryz.sizeOf3
  v3 := Tryz.zeroValue3
  t9 := Tryz.underlying9
  a9 := Tryz.isAgg9
  z9 := Tryz.sizeOf9
  v9 := Tryz.zeroValue9
  t37 := Tryz.underlying269
  a37 := Tryz.isAgg269
  z37 := Tryz.sizeOf269
  v37 := Tryz.zeroValue269
  t70 := Tryz.underlying268
  a70 := Tryz.isAgg268
  z70 := Tryz.sizeOf268
  v70 := Tryz.zeroValue268
  t72 := Tryz.underlying271
  a72 := Tryz.isAgg271
  z72 := Tryz.sizeOf271
  v72 := Tryz.zeroValue271
  t127 := Tryz.underlying295
  a127 := Tryz.isAgg295
  z127 := Tryz.sizeOf295
  v127 := Tryz.zeroValue295 }
theorem Tryz.Builder_Extra_169 : Builder.Extra Tryz.prog Tryz.lays169_ren := {
  sizeBuilder := by kernel_rfl
  liesBuilder := by kernel_rfl
  t5 := Tryz.underlying5
  a5 := Tryz.isAgg5
  z5 := Tryz.sizeOf5
  v5 := Tryz.zeroValue5
  infoByte := by kernel_rfl
  cellsByte := by kernel_rfl
  sizeByte := by kernel_rfl
  neB5 := by decide }
open Go.RowKit in
/-- (*strings.Builder).String: "String returns the accumulated string.": OF A BUILDER THAT HOLDS AT LEAST ONE BYTE. ✋ THE MODEL FREEZES THOSE BYTES IN THE BUFFER (unsafe.String): a later write INTO them ends the model's run without an answer; a later append BEHIND them goes on. The statement's order of evaluation is drawn: one draw. (LAID: no walk: one application.) -/
theorem Tryz.Builder_String (B b : Nat) (l : List UInt8) (w : World) (h : Lib.IsBuilder 271 5 B b (Lib.byteCells l) w) (h0 : l ≠ []) :
    Calls Tryz.prog 185 #[.pointer (some ⟨b, 0, none⟩)] w fun e w' => e = .returned (.string ⟨l.toArray⟩) ∧ Below B w w' := Any.Builder_String Tryz.lays169 Tryz.Builder_Extra_169 B b l w h h0
open Go.RowKit in
/-- (*strings.Builder).String OF A BUILDER THAT HOLDS NO BYTE: the empty string. (Its buffer is nil, or a row of which it has taken nothing yet; where that row has NO capacity the model lays one new block for unsafe.SliceData's 'some address'.) One draw. (LAID: no walk: one application.) -/
theorem Tryz.Builder_String_empty (B b : Nat) (w : World) (h : Lib.IsBuilder 271 5 B b [] w) (hBw : B ≤ w.heap.size) :
    Calls Tryz.prog 185 #[.pointer (some ⟨b, 0, none⟩)] w fun e w' => e = .returned (.string ⟨#[]⟩) ∧ Below B w w' := Any.Builder_String_empty Tryz.lays169 Tryz.Builder_Extra_169 B b w h hBw
open Go.RowKit in
/-- (*strings.Builder).String: "String returns the accumulated string.": WHATEVER THE BUILDER HOLDS. (LAID: no walk: one application.) -/
theorem Tryz.Builder_String_any (B b : Nat) (l : List UInt8) (w : World) (h : Lib.IsBuilder 271 5 B b (Lib.byteCells l) w) (hBw : B ≤ w.heap.size) :
    Calls Tryz.prog 185 #[.pointer (some ⟨b, 0, none⟩)] w fun e w' => e = .returned (.string ⟨l.toArray⟩) ∧ Below B w w' := Any.Builder_String_any Tryz.lays169 Tryz.Builder_Extra_169 B b l w h hBw
def Tryz.lays241_ren : Go.Shelf.Ren := ⟨fun | 241 => 210 | 277 => 223 | n => n, fun | 70 => 268 | 3 => 3 | 0 => 0 | 72 => 271 | 37 => 269 | 5 => 5 | n => n, fun | n => n⟩
theorem Tryz.lays241 : Go.Proofs.Lays.n241 Tryz.prog Tryz.lays241_ren := {
  mixed := by kernel_rfl
  f241 := Tryz.func210.trans (congrArg some (by kernel_rfl))
  f277 := Tryz.func223.trans (congrArg some (by kernel_rfl))
  t0 := Tryz.underlying0
  a0 := Tryz.isAgg0
  z0 := Tryz.sizeOf0
  v0 := Tryz.zeroValue0
  t3 := Tryz.underlying3
  a3 := Tryz.isAgg3
  z3 := Tryz.sizeOf3
  v3 := Tryz.zeroValue3
  t37 := Tryz.underlying269
  a37 := Tryz.isAgg269
  z37 := Tryz.sizeOf269
  v37 := Tryz.zeroValue269
  t70 := Tryz.underlying268
  a70 := Tryz.isAgg268
  z70 := Tryz.sizeOf268
  v70 := Tryz.zeroValue268
  t72 := Tryz.underlying271
  a72 := Tryz.isAgg271
  z72 := Tryz.sizeOf271
  v72 := Tryz.zeroValue271 }
theorem Tryz.Builder_Extra_241 : Builder.Extra Tryz.prog Tryz.lays241_ren := {
  sizeBuilder := by kernel_rfl
  liesBuilder := by kernel_rfl
  t5 := Tryz.underlying5
  a5 := Tryz.isAgg5
  z5 := Tryz.sizeOf5
  v5 := Tryz.zeroValue5
  infoByte := by kernel_rfl
  cellsByte := by kernel_rfl
  sizeByte := by kernel_rfl
  neB5 := by decide }
open Go.RowKit in
/-- (*strings.Builder).grow (no doc but "grow copies the buffer to a new, larger buffer so that there are at least n bytes of capacity beyond len(b.buf)."): AT A BUILDER WITHOUT A BUFFER: a new row of whatever bytes for its buffer, none of them its own yet. Three draws. (LAID: no walk: one application.) -/
theorem Tryz.Builder_grow_fresh (B b n : Nat) (w : World) (hB : B ≤ b) (hbk : w.heap[b]? = some (.cells #[.pointer (some ⟨b, 0, none⟩), .slice none 0 0] 271 (0, 0))) (hBw : B ≤ w.heap.size) (hn : n ≤ 281474976710656) :
    Calls Tryz.prog 210 #[.pointer (some ⟨b, 0, none⟩), .int .i64 n] w fun e w' => e = .returned (.tuple #[]) ∧ (Lib.BuilderAt 271 5 B b (.pointer (some ⟨b, 0, none⟩)) [] w' ∧ Below B w w') := Any.Builder_grow_fresh Tryz.lays241 Tryz.Builder_Extra_241 B b n w hB hbk hBw hn
def Tryz.lays165_ren : Go.Shelf.Ren := ⟨fun | 165 => 183 | 240 => 209 | 241 => 210 | 276 => 222 | 277 => 223 | n => n, fun | 70 => 268 | 3 => 3 | 0 => 0 | 4 => 4 | 9 => 9 | 20 => 20 | 72 => 271 | 37 => 269 | 164 => 308 | 5 => 5 | n => n, fun | n => n⟩
theorem Tryz.lays165 : Go.Proofs.Lays.n165 Tryz.prog Tryz.lays165_ren := {
  mixed := by kernel_rfl
  f165 := Tryz.func183.trans (congrArg some (by kernel_rfl))
  f240 := Tryz.func209.trans (congrArg some (by kernel_rfl))
  f241 := Tryz.func210.trans (congrArg some (by kernel_rfl))
  f276 := Tryz.func222.trans (congrArg some (by kernel_rfl))
  f277 := Tryz.func223.trans (congrArg some (by kernel_rfl))
  t0 := Tryz.underlying0
  a0 := Tryz.isAgg0
  z0 := Tryz.sizeOf0
  v0 := Tryz.zeroValue0
  t3 := Tryz.underlying3
  a3 := Tryz.isAgg3
  z3 := Tryz.sizeOf3
  v3 := Tryz.zeroValue3
  t4 := Tryz.underlying4
  a4 := Tryz.isAgg4
  z4 := Tryz.sizeOf4
  v4 := Tryz.zeroValue4
  t9 := Tryz.underlying9
  a9 := Tryz.isAgg9
  z9 := Tryz.sizeOf9
  v9 := Tryz.zeroValue9
  t20 := Tryz.underlying20
  a20 := Tryz.isAgg20
  z20 := Tryz.sizeOf20
  v20 := Tryz.zeroValue20
  t37 := Tryz.underlying269
  a37 := Tryz.isAgg269
  z37 := Tryz.sizeOf269
  v37 := Tryz.zeroValue269
  t70 := Tryz.underlying268
  a70 := Tryz.isAgg268
  z70 := Tryz.sizeOf268
  v70 := Tryz.zeroValue268
  t72 := Tryz.underlying271
  a72 := Tryz.isAgg271
  z72 := Tryz.sizeOf271
  v72 := Tryz.zeroValue271
  t164 := Tryz.underlying308
  a164 := Tryz.isAgg308
  z164 := Tryz.sizeOf308
  v164 := Tryz.zeroValue308 }
theorem Tryz.Builder_Extra_165 : Builder.Extra Tryz.prog Tryz.lays165_ren := {
  sizeBuilder := by kernel_rfl
  liesBuilder := by kernel_rfl
  t5 := Tryz.underlying5
  a5 := Tryz.isAgg5
  z5 := Tryz.sizeOf5
  v5 := Tryz.zeroValue5
  infoByte := by kernel_rfl
  cellsByte := by kernel_rfl
  sizeByte := by kernel_rfl
  neB5 := by decide }
open Go.RowKit in
/-- (*strings.Builder).Grow AT A BUILDER THAT HAS NOT BEEN WRITTEN ('var b strings.Builder; b.Grow(n)'): "Grow grows b's capacity, if necessary, to guarantee space for another n bytes.": it holds no byte behind it asl before it. (LAID: no walk: one application.) -/
theorem Tryz.Builder_Grow_fresh (B b n : Nat) (w : World) (hB : B ≤ b) (hbk : w.heap[b]? = some (.cells #[.pointer none, .slice none 0 0] 271 (0, 0))) (hBw : B ≤ w.heap.size) (hn : n ≤ 281474976710656) :
    Calls Tryz.prog 183 #[.pointer (some ⟨b, 0, none⟩), .int .i64 n] w fun e w' => e = .returned (.tuple #[]) ∧ (Lib.BuilderAt 271 5 B b (.pointer (some ⟨b, 0, none⟩)) [] w' ∧ Below B w w') := Any.Builder_Grow_fresh Tryz.lays165 Tryz.Builder_Extra_165 B b n w hB hbk hBw hn
def Tryz.lays156_ren : Go.Shelf.Ren := ⟨fun | 156 => 154 | 165 => 183 | 166 => 184 | 169 => 185 | 240 => 209 | 241 => 210 | 276 => 222 | 277 => 223 | n => n, fun | 31 => 243 | 9 => 9 | 3 => 3 | 4 => 4 | 0 => 0 | 20 => 20 | 72 => 271 | 76 => 275 | 70 => 268 | 37 => 269 | 75 => 274 | 127 => 295 | 164 => 308 | 5 => 5 | 80 => 246 | n => n, fun | n => n⟩
theorem Tryz.lays156 : Go.Proofs.Lays.n156 Tryz.prog Tryz.lays156_ren := {
  mixed := by kernel_rfl
  f156 := Tryz.func154.trans (congrArg some (by kernel_rfl))
  f165 := Tryz.func183.trans (congrArg some (by kernel_rfl))
  f166 := Tryz.func184.trans (congrArg some (by kernel_rfl))
  f169 := Tryz.func185.trans (congrArg some (by kernel_rfl))
  f240 := Tryz.func209.trans (congrArg some (by kernel_rfl))
  f241 := Tryz.func210.trans (congrArg some (by kernel_rfl))
  f276 := Tryz.func222.trans (congrArg some (by kernel_rfl))
  f277 := Tryz.func223.trans (congrArg some (by kernel_rfl))
  t0 := Tryz.underlying0
  a0 := Tryz.isAgg0
  z0 := Tryz.sizeOf0
  v0 := Tryz.zeroValue0
  t3 := Tryz.underlying3
  a3 := Tryz.isAgg3
  z3 := Tryz.sizeOf3
  v3 := Tryz.zeroValue3
  t4 := Tryz.underlying4
  a4 := Tryz.isAgg4
  z4 := Tryz.sizeOf4
  v4 := Tryz.zeroValue4
  t9 := Tryz.underlying9
  a9 := Tryz.isAgg9
  z9 := Tryz.sizeOf9
  v9 := Tryz.zeroValue9
  t20 := Tryz.underlying20
  a20 := Tryz.isAgg20
  z20 := Tryz.sizeOf20
  v20 := Tryz.zeroValue20
  t31 := Tryz.underlying243
  a31 := Tryz.isAgg243
  z31 := Tryz.sizeOf243
  v31 := Tryz.zeroValue243
  t37 := Tryz.underlying269
  a37 := Tryz.isAgg269
  z37 := Tryz.sizeOf269
  v37 := Tryz.zeroValue269
  t70 := Tryz.underlying268
  a70 := Tryz.isAgg268
  z70 := Tryz.sizeOf268
  v70 := Tryz.zeroValue268
  t72 := Tryz.underlying271
  a72 := Tryz.isAgg271
  z72 := Tryz.sizeOf271
  v72 := Tryz.zeroValue271
  t75 := Tryz.underlying274
  a75 := Tryz.isAgg274
  z75 := Tryz.sizeOf274
  v75 := Tryz.zeroValue274
  t76 := Tryz.underlying275
  a76 := Tryz.isAgg275
  z76 := Tryz.sizeOf275
  v76 := Tryz.zeroValue275
  t127 := Tryz.underlying295
  a127 := Tryz.isAgg295
  z127 := Tryz.sizeOf295
  v127 := Tryz.zeroValue295
  t164 := Tryz.underlying308
  a164 := Tryz.isAgg308
  z164 := Tryz.sizeOf308
  v164 := Tryz.zeroValue308 }
theorem Tryz.Builder_Extra_156 : Builder.Extra Tryz.prog Tryz.lays156_ren := {
  sizeBuilder := by kernel_rfl
  liesBuilder := by kernel_rfl
  t5 := Tryz.underlying5
  a5 := Tryz.isAgg5
  z5 := Tryz.sizeOf5
  v5 := Tryz.zeroValue5
  infoByte := by kernel_rfl
  cellsByte := by kernel_rfl
  sizeByte := by kernel_rfl
  neB5 := by decide }
open Go.RowKit in
/-- No element: the empty string; the world is asl it was. (Whatever the slice's address and capacity: a nil slice too.) (LAID: no walk: one application.) -/
theorem Tryz.strings_Join_none (a : Option Addr) (c : Nat) (sep : ByteArray) (w : World) :
    Calls Tryz.prog 154 #[.slice a 0 c, .string sep] w fun e w' => e = .returned (.string ⟨#[]⟩) ∧ w' = w := Any.strings_Join_none Tryz.lays156 Tryz.Builder_Extra_156 a c sep w
open Go.RowKit in
/-- strings.Join: "Join concatenates the elements of its first argument to create a single string. The separator string sep is placed between elements in the resulting string.": HOWEVER MANY ELEMENTS. Below the heap's end the world is asl it was. (LAID: no walk: one application.) -/
theorem Tryz.strings_Join (bk o c : Nat) (xs : List ByteArray) (sep : ByteArray) (w : World) (hcells : ∀ (j : Nat) x, xs[j]? = some x → w.cell? ⟨bk, o + j, none⟩ = some (.string x)) (hbk : bk < w.heap.size) (hN : xs.length ≤ 140737488355328) (hcap : xs.length ≤ c) (hlen : (Lib.join (xs.map (·.data.toList)) sep.data.toList).length ≤ 140737488355328) :
    Calls Tryz.prog 154 #[.slice (some ⟨bk, o, none⟩) xs.length c, .string sep] w fun e w' => e = .returned (.string ⟨(Lib.join (xs.map (·.data.toList)) sep.data.toList).toArray⟩) ∧ Below w.heap.size w w' := Any.strings_Join Tryz.lays156 Tryz.Builder_Extra_156 bk o c xs sep w hcells hbk hN hcap hlen
def Tryz.lays128_ren : Go.Shelf.Ren := ⟨fun | 128 => 199 | n => n, fun | 51 => 289 | 3 => 3 | 4 => 4 | 46 => 220 | 5 => 5 | 9 => 9 | n => n, fun | n => n⟩
theorem Tryz.lays128 : Go.Proofs.Lays.n128 Tryz.prog Tryz.lays128_ren := {
  mixed := by kernel_rfl
  f128 := Tryz.func199.trans (congrArg some (by kernel_rfl))
  t3 := Tryz.underlying3
  a3 := Tryz.isAgg3
  z3 := Tryz.sizeOf3
  v3 := Tryz.zeroValue3
  t4 := Tryz.underlying4
  a4 := Tryz.isAgg4
  z4 := Tryz.sizeOf4
  v4 := Tryz.zeroValue4
  t5 := Tryz.underlying5
  a5 := Tryz.isAgg5
  z5 := Tryz.sizeOf5
  v5 := Tryz.zeroValue5
  t9 := Tryz.underlying9
  a9 := Tryz.isAgg9
  z9 := Tryz.sizeOf9
  v9 := Tryz.zeroValue9
  t46 := Tryz.underlying220
  a46 := Tryz.isAgg220
  z46 := Tryz.sizeOf220
  v46 := Tryz.zeroValue220
  t51 := Tryz.underlying289
  a51 := Tryz.isAgg289
  z51 := Tryz.sizeOf289
  v51 := Tryz.zeroValue289 }
/-- bits.Len32: "Len32 returns the minimum number of bits required to represent x; the result is 0 for x == 0.": IT RETURNS 'Lib.bitLen x'; the world is asl it was. ('h0', 'h1': x is a uint32.) (LAID: no walk: one application.) -/
theorem Tryz.bits_Len32 (x : Int) (w : World) (h0 : 0 ≤ x) (h1 : x ≤ 4294967295) :
    Calls Tryz.prog 199 #[.int .u32 x] w fun e w' => e = .returned (.int .i64 (Lib.bitLen x.toNat)) ∧ w' = w := Any.bits_Len32 Tryz.lays128 x w h0 h1
def Tryz.lays125_ren : Go.Shelf.Ren := ⟨fun | 125 => 165 | 128 => 199 | 129 => 200 | n => n, fun | 46 => 220 | 3 => 3 | 51 => 289 | 53 => 291 | 4 => 4 | 5 => 5 | 9 => 9 | n => n, fun | n => n⟩
theorem Tryz.lays125 : Go.Proofs.Lays.n125 Tryz.prog Tryz.lays125_ren := {
  mixed := by kernel_rfl
  f125 := Tryz.func165.trans (congrArg some (by kernel_rfl))
  f128 := Tryz.func199.trans (congrArg some (by kernel_rfl))
  f129 := Tryz.func200.trans (congrArg some (by kernel_rfl))
  t3 := Tryz.underlying3
  a3 := Tryz.isAgg3
  z3 := Tryz.sizeOf3
  v3 := Tryz.zeroValue3
  t4 := Tryz.underlying4
  a4 := Tryz.isAgg4
  z4 := Tryz.sizeOf4
  v4 := Tryz.zeroValue4
  t5 := Tryz.underlying5
  a5 := Tryz.isAgg5
  z5 := Tryz.sizeOf5
  v5 := Tryz.zeroValue5
  t9 := Tryz.underlying9
  a9 := Tryz.isAgg9
  z9 := Tryz.sizeOf9
  v9 := Tryz.zeroValue9
  t46 := Tryz.underlying220
  a46 := Tryz.isAgg220
  z46 := Tryz.sizeOf220
  v46 := Tryz.zeroValue220
  t51 := Tryz.underlying289
  a51 := Tryz.isAgg289
  z51 := Tryz.sizeOf289
  v51 := Tryz.zeroValue289
  t53 := Tryz.underlying291
  a53 := Tryz.isAgg291
  z53 := Tryz.sizeOf291
  v53 := Tryz.zeroValue291 }
/-- bits.Len: "Len returns the minimum number of bits required to represent x; the result is 0 for x == 0.": IT RETURNS 'Lib.bitLen x'; the world is asl it was. (A uint has 64 bits in the model.) ITS CALLEE bits.Len64 IS MET BY ITS OWN CONTRACT OFF THE SHELF (lay that first). (LAID: no walk: one application.) -/
theorem Tryz.bits_Len (x : Int) (w : World) (h0 : 0 ≤ x) (h1 : x ≤ 18446744073709551615) :
    Calls Tryz.prog 165 #[.int .u64 x] w fun e w' => e = .returned (.int .i64 (Lib.bitLen x.toNat)) ∧ w' = w := Any.bits_Len Tryz.lays125 x w h0 h1
def Tryz.lays129_ren : Go.Shelf.Ren := ⟨fun | 129 => 200 | n => n, fun | 53 => 291 | 3 => 3 | 4 => 4 | 46 => 220 | 5 => 5 | 9 => 9 | n => n, fun | n => n⟩
theorem Tryz.lays129 : Go.Proofs.Lays.n129 Tryz.prog Tryz.lays129_ren := {
  mixed := by kernel_rfl
  f129 := Tryz.func200.trans (congrArg some (by kernel_rfl))
  t3 := Tryz.underlying3
  a3 := Tryz.isAgg3
  z3 := Tryz.sizeOf3
  v3 := Tryz.zeroValue3
  t4 := Tryz.underlying4
  a4 := Tryz.isAgg4
  z4 := Tryz.sizeOf4
  v4 := Tryz.zeroValue4
  t5 := Tryz.underlying5
  a5 := Tryz.isAgg5
  z5 := Tryz.sizeOf5
  v5 := Tryz.zeroValue5
  t9 := Tryz.underlying9
  a9 := Tryz.isAgg9
  z9 := Tryz.sizeOf9
  v9 := Tryz.zeroValue9
  t46 := Tryz.underlying220
  a46 := Tryz.isAgg220
  z46 := Tryz.sizeOf220
  v46 := Tryz.zeroValue220
  t53 := Tryz.underlying291
  a53 := Tryz.isAgg291
  z53 := Tryz.sizeOf291
  v53 := Tryz.zeroValue291 }
/-- bits.Len64: "Len64 returns the minimum number of bits required to represent x; the result is 0 for x == 0.": IT RETURNS 'Lib.bitLen x'; the world is asl it was. ('h0', 'h1': x is a uint64.) (LAID: no walk: one application.) -/
theorem Tryz.bits_Len64 (x : Int) (w : World) (h0 : 0 ≤ x) (h1 : x ≤ 18446744073709551615) :
    Calls Tryz.prog 200 #[.int .u64 x] w fun e w' => e = .returned (.int .i64 (Lib.bitLen x.toNat)) ∧ w' = w := Any.bits_Len64 Tryz.lays129 x w h0 h1
def Tryz.lays317_ren : Go.Shelf.Ren := ⟨fun | 317 => 235 | n => n, fun | 3 => 3 | 46 => 220 | n => n, fun | n => n⟩
theorem Tryz.lays317 : Go.Proofs.Lays.n317 Tryz.prog Tryz.lays317_ren := {
  mixed := by kernel_rfl
  f317 := Tryz.func235.trans (congrArg some (by kernel_rfl))
  t3 := Tryz.underlying3
  a3 := Tryz.isAgg3
  z3 := Tryz.sizeOf3
  v3 := Tryz.zeroValue3
  t46 := Tryz.underlying220
  a46 := Tryz.isAgg220
  z46 := Tryz.sizeOf220
  v46 := Tryz.zeroValue220 }
open Go.Lib in
/-- internal/strconv.log10Pow2: "log10Pow2(x) returns ⌊log₁₀ 2**x⌋ = ⌊x * log₁₀ 2⌋.": '(x * 78913) >> 18', at an x up to 64 (a length in bits). The world is asl it was. (LAID: no walk: one application.) -/
theorem Tryz.internal_strconv_log10Pow2 (x : Nat) (h : x ≤ 64) (w : World) :
    Calls Tryz.prog 235 #[.int .i64 x] w fun e w' => e = .returned (.int .i64 (Lib.l10 x)) ∧ w' = w := Any.internal_strconv_log10Pow2 Tryz.lays317 x h w
def Tryz.lays318_ren : Go.Shelf.Ren := ⟨fun | 318 => 236 | n => n, fun | 3 => 3 | 4 => 4 | n => n, fun | n => n⟩
theorem Tryz.lays318 : Go.Proofs.Lays.n318 Tryz.prog Tryz.lays318_ren := {
  mixed := by kernel_rfl
  f318 := Tryz.func236.trans (congrArg some (by kernel_rfl))
  t3 := Tryz.underlying3
  a3 := Tryz.isAgg3
  z3 := Tryz.sizeOf3
  v3 := Tryz.zeroValue3
  t4 := Tryz.underlying4
  a4 := Tryz.isAgg4
  z4 := Tryz.sizeOf4
  v4 := Tryz.zeroValue4 }
open Go.Lib in
/-- internal/strconv.bool2: "bool2 converts b to an integer: 1 for true, 0 for false." The world is asl it was. (LAID: no walk: one application.) -/
theorem Tryz.internal_strconv_bool2_int (b : Bool) (w : World) :
    Calls Tryz.prog 236 #[.bool b] w fun e w' => e = .returned (.int .i64 (if b then 1 else 0)) ∧ w' = w := Any.internal_strconv_bool2_int Tryz.lays318 b w
def Tryz.lays283_ren : Go.Shelf.Ren := ⟨fun | 283 => 229 | n => n, fun | 3 => 3 | 9 => 9 | 4 => 4 | n => n, fun | n => n⟩
theorem Tryz.lays283 : Go.Proofs.Lays.n283 Tryz.prog Tryz.lays283_ren := {
  mixed := by kernel_rfl
  f283 := Tryz.func229.trans (congrArg some (by kernel_rfl))
  t3 := Tryz.underlying3
  a3 := Tryz.isAgg3
  z3 := Tryz.sizeOf3
  v3 := Tryz.zeroValue3
  t4 := Tryz.underlying4
  a4 := Tryz.isAgg4
  z4 := Tryz.sizeOf4
  v4 := Tryz.zeroValue4
  t9 := Tryz.underlying9
  a9 := Tryz.isAgg9
  z9 := Tryz.sizeOf9
  v9 := Tryz.zeroValue9 }
open Go.Lib in
/-- internal/strconv.small: "small returns the string for an i with 0 <= i < nSmalls.": i's decimal numeral. The world is asl it was. (LAID: no walk: one application.) -/
theorem Tryz.internal_strconv_small (i : Nat) (h : i < 100) (w : World) :
    Calls Tryz.prog 229 #[.int .i64 i] w fun e w' => e = .returned (.string ⟨(Lib.decDigits i).toArray⟩) ∧ w' = w := Any.internal_strconv_small Tryz.lays283 i h w
def Tryz.laysM284_ren : Go.Shelf.Ren := ⟨fun | 284 => 230 | 129 => 200 | 317 => 235 | 318 => 236 | n => n, fun | 53 => 291 | 3 => 3 | 212 => 322 | 0 => 0 | 4 => 4 | 46 => 220 | 5 => 5 | 9 => 9 | n => n, fun | 17 => 2 | n => n⟩
theorem Tryz.laysM284 : Go.Proofs.LaysM.n284 Tryz.prog Tryz.laysM284_ren := {
  mixed := by kernel_rfl
  f129 := Tryz.func200.trans (congrArg some (by kernel_rfl))
  f284 := Tryz.func230.trans (congrArg some (by kernel_rfl))
  f317 := Tryz.func235.trans (congrArg some (by kernel_rfl))
  f318 := Tryz.func236.trans (congrArg some (by kernel_rfl))
  t0 := Tryz.underlying0
  a0 := Tryz.isAgg0
  z0 := Tryz.sizeOf0
  v0 := Tryz.zeroValue0
  t3 := Tryz.underlying3
  a3 := Tryz.isAgg3
  z3 := Tryz.sizeOf3
  v3 := Tryz.zeroValue3
  t4 := Tryz.underlying4
  a4 := Tryz.isAgg4
  z4 := Tryz.sizeOf4
  v4 := Tryz.zeroValue4
  t5 := Tryz.underlying5
  a5 := Tryz.isAgg5
  z5 := Tryz.sizeOf5
  v5 := Tryz.zeroValue5
  t9 := Tryz.underlying9
  a9 := Tryz.isAgg9
  z9 := Tryz.sizeOf9
  v9 := Tryz.zeroValue9
  t46 := Tryz.underlying220
  a46 := Tryz.isAgg220
  z46 := Tryz.sizeOf220
  v46 := Tryz.zeroValue220
  t53 := Tryz.underlying291
  a53 := Tryz.isAgg291
  z53 := Tryz.sizeOf291
  v53 := Tryz.zeroValue291
  t212 := Tryz.underlying322
  a212 := Tryz.isAgg322
  z212 := Tryz.sizeOf322
  v212 := Tryz.zeroValue322
  g17 := by kernel_rfl
  i0 := by kernel_rfl
  i3 := by kernel_rfl
  i4 := by kernel_rfl
  i5 := by kernel_rfl
  i9 := by kernel_rfl
  i46 := by kernel_rfl
  i53 := by kernel_rfl
  i212 := by kernel_rfl
  m17 := by kernel_rfl }
open Go.Lib in
/-- internal/strconv.numDigits, at a d that is not 0: THE NUMBER OF d's DECIMAL DIGITS. The world is asl it was. (LAID: no walk: one application.) -/
theorem Tryz.internal_strconv_numDigits (u : Nat) (h1 : 1 ≤ u) (h2 : u < 18446744073709551616) (w : World) (htab : Lib.TabIs Tryz.prog w "internal/strconv.uint64pow10" .u64 Lib.pow10Tab) :
    Calls Tryz.prog 230 #[.int .u64 u] w fun e w' => e = .returned (.int .i64 (Lib.nDigits u)) ∧ w' = w := Any.internal_strconv_numDigits Tryz.laysM284 u h1 h2 w htab
def Tryz.lays285_ren : Go.Shelf.Ren := ⟨fun | 285 => 231 | n => n, fun | 37 => 269 | 53 => 291 | 3 => 3 | 4 => 4 | 51 => 289 | 9 => 9 | 5 => 5 | 0 => 0 | n => n, fun | n => n⟩
theorem Tryz.lays285 : Go.Proofs.Lays.n285 Tryz.prog Tryz.lays285_ren := {
  mixed := by kernel_rfl
  f285 := Tryz.func231.trans (congrArg some (by kernel_rfl))
  t0 := Tryz.underlying0
  a0 := Tryz.isAgg0
  z0 := Tryz.sizeOf0
  v0 := Tryz.zeroValue0
  t3 := Tryz.underlying3
  a3 := Tryz.isAgg3
  z3 := Tryz.sizeOf3
  v3 := Tryz.zeroValue3
  t4 := Tryz.underlying4
  a4 := Tryz.isAgg4
  z4 := Tryz.sizeOf4
  v4 := Tryz.zeroValue4
  t5 := Tryz.underlying5
  a5 := Tryz.isAgg5
  z5 := Tryz.sizeOf5
  v5 := Tryz.zeroValue5
  t9 := Tryz.underlying9
  a9 := Tryz.isAgg9
  z9 := Tryz.sizeOf9
  v9 := Tryz.zeroValue9
  t37 := Tryz.underlying269
  a37 := Tryz.isAgg269
  z37 := Tryz.sizeOf269
  v37 := Tryz.zeroValue269
  t51 := Tryz.underlying289
  a51 := Tryz.isAgg289
  z51 := Tryz.sizeOf289
  v51 := Tryz.zeroValue289
  t53 := Tryz.underlying291
  a53 := Tryz.isAgg291
  z53 := Tryz.sizeOf291
  v53 := Tryz.zeroValue291 }
open Go.RowKit Go.Sort Go.Lib in
/-- internal/strconv.formatBase10: "formatBase10 formats the decimal representation of u into a. The caller is responsible for ensuring that a is big enough to hold u. If a is too big, leading zeros will be filled in asl needed.": THE ROW HOLDS u's DIGITS ('FmtInv .. 0 ..': every place t holds 'dg u (len - 1 - t)'); all else is asl it was but for the count of draws. (LAID: no walk: one application.) -/
theorem Tryz.internal_strconv_formatBase10 (blk off cap : Nat) (u : Nat) (d : Array UInt8) (w : World) (hH : Holds (fun (b : UInt8) => Value.int .u8 (b.toNat : Int)) w blk off d) (hu : u < 10 ^ d.size) (hu64 : u < 18446744073709551616) (hsz : d.size < 4611686018427387904) :
    Calls Tryz.prog 231 #[.slice (some ⟨blk, off, none⟩) d.size cap, .int .u64 u] w fun e w' =>
      e = .returned (.tuple #[]) ∧ ∃ (n v' : Nat) (dk : Array UInt8), w' = (putRow (fun (b : UInt8) => Value.int .u8 (b.toNat : Int)) w blk off dk).drewN n ∧ FmtInv d.size u 0 v' dk := Any.internal_strconv_formatBase10 Tryz.lays285 blk off cap u d w hH hu hu64 hsz
def Tryz.laysM246_ren : Go.Shelf.Ren := ⟨fun | 246 => 224 | 283 => 229 | 284 => 230 | 285 => 231 | 286 => 232 | 129 => 200 | 317 => 235 | 318 => 236 | 319 => 237 | 320 => 238 | 337 => 239 | 338 => 240 | n => n, fun | 2 => 2 | 3 => 3 | 9 => 9 | 4 => 4 | 171 => 316 | 0 => 0 | 53 => 291 | 37 => 269 | 5 => 5 | 173 => 318 | 212 => 322 | 51 => 289 | 20 => 20 | 213 => 323 | 46 => 220 | 232 => 324 | 233 => 325 | n => n, fun | 17 => 2 | 18 => 3 | 19 => 4 | n => n⟩
theorem Tryz.laysM246 : Go.Proofs.LaysM.n246 Tryz.prog Tryz.laysM246_ren := {
  mixed := by kernel_rfl
  f129 := Tryz.func200.trans (congrArg some (by kernel_rfl))
  f246 := Tryz.func224.trans (congrArg some (by kernel_rfl))
  f283 := Tryz.func229.trans (congrArg some (by kernel_rfl))
  f284 := Tryz.func230.trans (congrArg some (by kernel_rfl))
  f285 := Tryz.func231.trans (congrArg some (by kernel_rfl))
  f286 := Tryz.func232.trans (congrArg some (by kernel_rfl))
  f317 := Tryz.func235.trans (congrArg some (by kernel_rfl))
  f318 := Tryz.func236.trans (congrArg some (by kernel_rfl))
  f319 := Tryz.func237.trans (congrArg some (by kernel_rfl))
  f320 := Tryz.func238.trans (congrArg some (by kernel_rfl))
  f337 := Tryz.func239.trans (congrArg some (by kernel_rfl))
  f338 := Tryz.func240.trans (congrArg some (by kernel_rfl))
  t0 := Tryz.underlying0
  a0 := Tryz.isAgg0
  z0 := Tryz.sizeOf0
  v0 := Tryz.zeroValue0
  t2 := Tryz.underlying2
  a2 := Tryz.isAgg2
  z2 := Tryz.sizeOf2
  v2 := Tryz.zeroValue2
  t3 := Tryz.underlying3
  a3 := Tryz.isAgg3
  z3 := Tryz.sizeOf3
  v3 := Tryz.zeroValue3
  t4 := Tryz.underlying4
  a4 := Tryz.isAgg4
  z4 := Tryz.sizeOf4
  v4 := Tryz.zeroValue4
  t5 := Tryz.underlying5
  a5 := Tryz.isAgg5
  z5 := Tryz.sizeOf5
  v5 := Tryz.zeroValue5
  t9 := Tryz.underlying9
  a9 := Tryz.isAgg9
  z9 := Tryz.sizeOf9
  v9 := Tryz.zeroValue9
  t20 := Tryz.underlying20
  a20 := Tryz.isAgg20
  z20 := Tryz.sizeOf20
  v20 := Tryz.zeroValue20
  t37 := Tryz.underlying269
  a37 := Tryz.isAgg269
  z37 := Tryz.sizeOf269
  v37 := Tryz.zeroValue269
  t46 := Tryz.underlying220
  a46 := Tryz.isAgg220
  z46 := Tryz.sizeOf220
  v46 := Tryz.zeroValue220
  t51 := Tryz.underlying289
  a51 := Tryz.isAgg289
  z51 := Tryz.sizeOf289
  v51 := Tryz.zeroValue289
  t53 := Tryz.underlying291
  a53 := Tryz.isAgg291
  z53 := Tryz.sizeOf291
  v53 := Tryz.zeroValue291
  t171 := Tryz.underlying316
  a171 := Tryz.isAgg316
  z171 := Tryz.sizeOf316
  v171 := Tryz.zeroValue316
  t173 := Tryz.underlying318
  a173 := Tryz.isAgg318
  z173 := Tryz.sizeOf318
  v173 := Tryz.zeroValue318
  t212 := Tryz.underlying322
  a212 := Tryz.isAgg322
  z212 := Tryz.sizeOf322
  v212 := Tryz.zeroValue322
  t213 := Tryz.underlying323
  a213 := Tryz.isAgg323
  z213 := Tryz.sizeOf323
  t232 := Tryz.underlying324
  a232 := Tryz.isAgg324
  z232 := Tryz.sizeOf324
  v232 := Tryz.zeroValue324
  t233 := Tryz.underlying325
  a233 := Tryz.isAgg325
  z233 := Tryz.sizeOf325
  v233 := Tryz.zeroValue325
  g17 := by kernel_rfl
  g18 := by kernel_rfl
  g19 := by kernel_rfl
  i0 := by kernel_rfl
  i2 := by kernel_rfl
  i3 := by kernel_rfl
  i4 := by kernel_rfl
  i5 := by kernel_rfl
  i9 := by kernel_rfl
  i20 := by kernel_rfl
  i37 := by kernel_rfl
  i46 := by kernel_rfl
  i51 := by kernel_rfl
  i53 := by kernel_rfl
  i171 := by kernel_rfl
  i173 := by kernel_rfl
  i212 := by kernel_rfl
  i232 := by kernel_rfl
  i233 := by kernel_rfl
  m17 := by kernel_rfl
  m18 := by kernel_rfl
  m19 := by kernel_rfl }
open Go.RowKit Go.Sort Go.Lib in
/-- internal/strconv.FormatInt: "FormatInt returns the string representation of i in the given base": AT BASE 10: i's decimal numeral, for every int64. The world behind the call: the world before it, new blocks behind the heap, draws. (LAID: no walk: one application.) -/
theorem Tryz.internal_strconv_FormatInt_10 (n : Int) (h0 : -9223372036854775808 ≤ n) (h1 : n ≤ 9223372036854775807) (w : World) (htab : Lib.TabIs Tryz.prog w "internal/strconv.uint64pow10" .u64 Lib.pow10Tab) :
    Calls Tryz.prog 224 #[.int .i64 n, .int .i64 10] w fun e w' => e = .returned (.string ⟨(Lib.itoa n).toArray⟩) ∧ ∃ k os, w' = grow (w.drewN k) os := Any.internal_strconv_FormatInt_10 Tryz.laysM246 n h0 h1 w htab
def Tryz.lays246_ren : Go.Shelf.Ren := ⟨fun | 246 => 224 | 283 => 229 | 284 => 230 | 285 => 231 | 286 => 232 | 129 => 200 | 317 => 235 | 318 => 236 | 319 => 237 | 320 => 238 | 337 => 239 | 338 => 240 | n => n, fun | 2 => 2 | 3 => 3 | 9 => 9 | 4 => 4 | 171 => 316 | 0 => 0 | 53 => 291 | 37 => 269 | 5 => 5 | 173 => 318 | 212 => 322 | 51 => 289 | 20 => 20 | 213 => 323 | 46 => 220 | 232 => 324 | 233 => 325 | n => n, fun | 17 => 2 | 18 => 3 | 19 => 4 | n => n⟩
theorem Tryz.lays246 : Go.Proofs.Lays.n246 Tryz.prog Tryz.lays246_ren := {
  mixed := by kernel_rfl
  f129 := Tryz.func200.trans (congrArg some (by kernel_rfl))
  f246 := Tryz.func224.trans (congrArg some (by kernel_rfl))
  f283 := Tryz.func229.trans (congrArg some (by kernel_rfl))
  f284 := Tryz.func230.trans (congrArg some (by kernel_rfl))
  f285 := Tryz.func231.trans (congrArg some (by kernel_rfl))
  f286 := Tryz.func232.trans (congrArg some (by kernel_rfl))
  f317 := Tryz.func235.trans (congrArg some (by kernel_rfl))
  f318 := Tryz.func236.trans (congrArg some (by kernel_rfl))
  f319 := Tryz.func237.trans (congrArg some (by kernel_rfl))
  f320 := Tryz.func238.trans (congrArg some (by kernel_rfl))
  f337 := Tryz.func239.trans (congrArg some (by kernel_rfl))
  f338 := Tryz.func240.trans (congrArg some (by kernel_rfl))
  t0 := Tryz.underlying0
  a0 := Tryz.isAgg0
  z0 := Tryz.sizeOf0
  v0 := Tryz.zeroValue0
  t2 := Tryz.underlying2
  a2 := Tryz.isAgg2
  z2 := Tryz.sizeOf2
  v2 := Tryz.zeroValue2
  t3 := Tryz.underlying3
  a3 := Tryz.isAgg3
  z3 := Tryz.sizeOf3
  v3 := Tryz.zeroValue3
  t4 := Tryz.underlying4
  a4 := Tryz.isAgg4
  z4 := Tryz.sizeOf4
  v4 := Tryz.zeroValue4
  t5 := Tryz.underlying5
  a5 := Tryz.isAgg5
  z5 := Tryz.sizeOf5
  v5 := Tryz.zeroValue5
  t9 := Tryz.underlying9
  a9 := Tryz.isAgg9
  z9 := Tryz.sizeOf9
  v9 := Tryz.zeroValue9
  t20 := Tryz.underlying20
  a20 := Tryz.isAgg20
  z20 := Tryz.sizeOf20
  v20 := Tryz.zeroValue20
  t37 := Tryz.underlying269
  a37 := Tryz.isAgg269
  z37 := Tryz.sizeOf269
  v37 := Tryz.zeroValue269
  t46 := Tryz.underlying220
  a46 := Tryz.isAgg220
  z46 := Tryz.sizeOf220
  v46 := Tryz.zeroValue220
  t51 := Tryz.underlying289
  a51 := Tryz.isAgg289
  z51 := Tryz.sizeOf289
  v51 := Tryz.zeroValue289
  t53 := Tryz.underlying291
  a53 := Tryz.isAgg291
  z53 := Tryz.sizeOf291
  v53 := Tryz.zeroValue291
  t171 := Tryz.underlying316
  a171 := Tryz.isAgg316
  z171 := Tryz.sizeOf316
  v171 := Tryz.zeroValue316
  t173 := Tryz.underlying318
  a173 := Tryz.isAgg318
  z173 := Tryz.sizeOf318
  v173 := Tryz.zeroValue318
  t212 := Tryz.underlying322
  a212 := Tryz.isAgg322
  z212 := Tryz.sizeOf322
  v212 := Tryz.zeroValue322
  t213 := Tryz.underlying323
  a213 := Tryz.isAgg323
  z213 := Tryz.sizeOf323
  t232 := Tryz.underlying324
  a232 := Tryz.isAgg324
  z232 := Tryz.sizeOf324
  v232 := Tryz.zeroValue324
  t233 := Tryz.underlying325
  a233 := Tryz.isAgg325
  z233 := Tryz.sizeOf325
  v233 := Tryz.zeroValue325
  g17 := by kernel_rfl
  g18 := by kernel_rfl
  g19 := by kernel_rfl }
open Go.RowKit Go.Sort Go.Lib in
/-- THE ROAD WITHOUT THE TABLE: 0 <= i < 100: two constants are read, nothing is laid: no premise on the world, and the world is asl it was. (LAID: no walk: one application.) -/
theorem Tryz.internal_strconv_FormatInt_10_small (i : Nat) (hi : i < 100) (w : World) :
    Calls Tryz.prog 224 #[.int .i64 i, .int .i64 10] w fun e w' => e = .returned (.string ⟨(Lib.decDigits i).toArray⟩) ∧ w' = w := Any.internal_strconv_FormatInt_10_small Tryz.lays246 i hi w
def Tryz.laysM243_ren : Go.Shelf.Ren := ⟨fun | 243 => 211 | 246 => 224 | 283 => 229 | 284 => 230 | 285 => 231 | 286 => 232 | 129 => 200 | 317 => 235 | 318 => 236 | 319 => 237 | 320 => 238 | 337 => 239 | 338 => 240 | n => n, fun | 3 => 3 | 9 => 9 | 2 => 2 | 4 => 4 | 171 => 316 | 0 => 0 | 53 => 291 | 37 => 269 | 5 => 5 | 173 => 318 | 212 => 322 | 51 => 289 | 20 => 20 | 213 => 323 | 46 => 220 | 232 => 324 | 233 => 325 | n => n, fun | 17 => 2 | 18 => 3 | 19 => 4 | n => n⟩
theorem Tryz.laysM243 : Go.Proofs.LaysM.n243 Tryz.prog Tryz.laysM243_ren := {
  mixed := by kernel_rfl
  f129 := Tryz.func200.trans (congrArg some (by kernel_rfl))
  f243 := Tryz.func211.trans (congrArg some (by kernel_rfl))
  f246 := Tryz.func224.trans (congrArg some (by kernel_rfl))
  f283 := Tryz.func229.trans (congrArg some (by kernel_rfl))
  f284 := Tryz.func230.trans (congrArg some (by kernel_rfl))
  f285 := Tryz.func231.trans (congrArg some (by kernel_rfl))
  f286 := Tryz.func232.trans (congrArg some (by kernel_rfl))
  f317 := Tryz.func235.trans (congrArg some (by kernel_rfl))
  f318 := Tryz.func236.trans (congrArg some (by kernel_rfl))
  f319 := Tryz.func237.trans (congrArg some (by kernel_rfl))
  f320 := Tryz.func238.trans (congrArg some (by kernel_rfl))
  f337 := Tryz.func239.trans (congrArg some (by kernel_rfl))
  f338 := Tryz.func240.trans (congrArg some (by kernel_rfl))
  t0 := Tryz.underlying0
  a0 := Tryz.isAgg0
  z0 := Tryz.sizeOf0
  v0 := Tryz.zeroValue0
  t2 := Tryz.underlying2
  a2 := Tryz.isAgg2
  z2 := Tryz.sizeOf2
  v2 := Tryz.zeroValue2
  t3 := Tryz.underlying3
  a3 := Tryz.isAgg3
  z3 := Tryz.sizeOf3
  v3 := Tryz.zeroValue3
  t4 := Tryz.underlying4
  a4 := Tryz.isAgg4
  z4 := Tryz.sizeOf4
  v4 := Tryz.zeroValue4
  t5 := Tryz.underlying5
  a5 := Tryz.isAgg5
  z5 := Tryz.sizeOf5
  v5 := Tryz.zeroValue5
  t9 := Tryz.underlying9
  a9 := Tryz.isAgg9
  z9 := Tryz.sizeOf9
  v9 := Tryz.zeroValue9
  t20 := Tryz.underlying20
  a20 := Tryz.isAgg20
  z20 := Tryz.sizeOf20
  v20 := Tryz.zeroValue20
  t37 := Tryz.underlying269
  a37 := Tryz.isAgg269
  z37 := Tryz.sizeOf269
  v37 := Tryz.zeroValue269
  t46 := Tryz.underlying220
  a46 := Tryz.isAgg220
  z46 := Tryz.sizeOf220
  v46 := Tryz.zeroValue220
  t51 := Tryz.underlying289
  a51 := Tryz.isAgg289
  z51 := Tryz.sizeOf289
  v51 := Tryz.zeroValue289
  t53 := Tryz.underlying291
  a53 := Tryz.isAgg291
  z53 := Tryz.sizeOf291
  v53 := Tryz.zeroValue291
  t171 := Tryz.underlying316
  a171 := Tryz.isAgg316
  z171 := Tryz.sizeOf316
  v171 := Tryz.zeroValue316
  t173 := Tryz.underlying318
  a173 := Tryz.isAgg318
  z173 := Tryz.sizeOf318
  v173 := Tryz.zeroValue318
  t212 := Tryz.underlying322
  a212 := Tryz.isAgg322
  z212 := Tryz.sizeOf322
  v212 := Tryz.zeroValue322
  t213 := Tryz.underlying323
  a213 := Tryz.isAgg323
  z213 := Tryz.sizeOf323
  t232 := Tryz.underlying324
  a232 := Tryz.isAgg324
  z232 := Tryz.sizeOf324
  v232 := Tryz.zeroValue324
  t233 := Tryz.underlying325
  a233 := Tryz.isAgg325
  z233 := Tryz.sizeOf325
  v233 := Tryz.zeroValue325
  g17 := by kernel_rfl
  g18 := by kernel_rfl
  g19 := by kernel_rfl
  i0 := by kernel_rfl
  i2 := by kernel_rfl
  i3 := by kernel_rfl
  i4 := by kernel_rfl
  i5 := by kernel_rfl
  i9 := by kernel_rfl
  i20 := by kernel_rfl
  i37 := by kernel_rfl
  i46 := by kernel_rfl
  i51 := by kernel_rfl
  i53 := by kernel_rfl
  i171 := by kernel_rfl
  i173 := by kernel_rfl
  i212 := by kernel_rfl
  i232 := by kernel_rfl
  i233 := by kernel_rfl
  m17 := by kernel_rfl
  m18 := by kernel_rfl
  m19 := by kernel_rfl }
open Go.RowKit Go.Sort Go.Lib in
/-- internal/strconv.Itoa: "Itoa is equivalent to FormatInt(int64(i), 10).": i's decimal numeral, for every int. (LAID: no walk: one application.) -/
theorem Tryz.internal_strconv_Itoa (n : Int) (h0 : -9223372036854775808 ≤ n) (h1 : n ≤ 9223372036854775807) (w : World) (htab : Lib.TabIs Tryz.prog w "internal/strconv.uint64pow10" .u64 Lib.pow10Tab) :
    Calls Tryz.prog 211 #[.int .i64 n] w fun e w' => e = .returned (.string ⟨(Lib.itoa n).toArray⟩) ∧ ∃ k os, w' = grow (w.drewN k) os := Any.internal_strconv_Itoa Tryz.laysM243 n h0 h1 w htab
def Tryz.lays243_ren : Go.Shelf.Ren := ⟨fun | 243 => 211 | 246 => 224 | 283 => 229 | 284 => 230 | 285 => 231 | 286 => 232 | 129 => 200 | 317 => 235 | 318 => 236 | 319 => 237 | 320 => 238 | 337 => 239 | 338 => 240 | n => n, fun | 3 => 3 | 9 => 9 | 2 => 2 | 4 => 4 | 171 => 316 | 0 => 0 | 53 => 291 | 37 => 269 | 5 => 5 | 173 => 318 | 212 => 322 | 51 => 289 | 20 => 20 | 213 => 323 | 46 => 220 | 232 => 324 | 233 => 325 | n => n, fun | 17 => 2 | 18 => 3 | 19 => 4 | n => n⟩
theorem Tryz.lays243 : Go.Proofs.Lays.n243 Tryz.prog Tryz.lays243_ren := {
  mixed := by kernel_rfl
  f129 := Tryz.func200.trans (congrArg some (by kernel_rfl))
  f243 := Tryz.func211.trans (congrArg some (by kernel_rfl))
  f246 := Tryz.func224.trans (congrArg some (by kernel_rfl))
  f283 := Tryz.func229.trans (congrArg some (by kernel_rfl))
  f284 := Tryz.func230.trans (congrArg some (by kernel_rfl))
  f285 := Tryz.func231.trans (congrArg some (by kernel_rfl))
  f286 := Tryz.func232.trans (congrArg some (by kernel_rfl))
  f317 := Tryz.func235.trans (congrArg some (by kernel_rfl))
  f318 := Tryz.func236.trans (congrArg some (by kernel_rfl))
  f319 := Tryz.func237.trans (congrArg some (by kernel_rfl))
  f320 := Tryz.func238.trans (congrArg some (by kernel_rfl))
  f337 := Tryz.func239.trans (congrArg some (by kernel_rfl))
  f338 := Tryz.func240.trans (congrArg some (by kernel_rfl))
  t0 := Tryz.underlying0
  a0 := Tryz.isAgg0
  z0 := Tryz.sizeOf0
  v0 := Tryz.zeroValue0
  t2 := Tryz.underlying2
  a2 := Tryz.isAgg2
  z2 := Tryz.sizeOf2
  v2 := Tryz.zeroValue2
  t3 := Tryz.underlying3
  a3 := Tryz.isAgg3
  z3 := Tryz.sizeOf3
  v3 := Tryz.zeroValue3
  t4 := Tryz.underlying4
  a4 := Tryz.isAgg4
  z4 := Tryz.sizeOf4
  v4 := Tryz.zeroValue4
  t5 := Tryz.underlying5
  a5 := Tryz.isAgg5
  z5 := Tryz.sizeOf5
  v5 := Tryz.zeroValue5
  t9 := Tryz.underlying9
  a9 := Tryz.isAgg9
  z9 := Tryz.sizeOf9
  v9 := Tryz.zeroValue9
  t20 := Tryz.underlying20
  a20 := Tryz.isAgg20
  z20 := Tryz.sizeOf20
  v20 := Tryz.zeroValue20
  t37 := Tryz.underlying269
  a37 := Tryz.isAgg269
  z37 := Tryz.sizeOf269
  v37 := Tryz.zeroValue269
  t46 := Tryz.underlying220
  a46 := Tryz.isAgg220
  z46 := Tryz.sizeOf220
  v46 := Tryz.zeroValue220
  t51 := Tryz.underlying289
  a51 := Tryz.isAgg289
  z51 := Tryz.sizeOf289
  v51 := Tryz.zeroValue289
  t53 := Tryz.underlying291
  a53 := Tryz.isAgg291
  z53 := Tryz.sizeOf291
  v53 := Tryz.zeroValue291
  t171 := Tryz.underlying316
  a171 := Tryz.isAgg316
  z171 := Tryz.sizeOf316
  v171 := Tryz.zeroValue316
  t173 := Tryz.underlying318
  a173 := Tryz.isAgg318
  z173 := Tryz.sizeOf318
  v173 := Tryz.zeroValue318
  t212 := Tryz.underlying322
  a212 := Tryz.isAgg322
  z212 := Tryz.sizeOf322
  v212 := Tryz.zeroValue322
  t213 := Tryz.underlying323
  a213 := Tryz.isAgg323
  z213 := Tryz.sizeOf323
  t232 := Tryz.underlying324
  a232 := Tryz.isAgg324
  z232 := Tryz.sizeOf324
  v232 := Tryz.zeroValue324
  t233 := Tryz.underlying325
  a233 := Tryz.isAgg325
  z233 := Tryz.sizeOf325
  v233 := Tryz.zeroValue325
  g17 := by kernel_rfl
  g18 := by kernel_rfl
  g19 := by kernel_rfl }
open Go.RowKit Go.Sort Go.Lib in
/-- THE ROAD WITHOUT THE TABLE: 0 <= i < 100. (LAID: no walk: one application.) -/
theorem Tryz.internal_strconv_Itoa_small (i : Nat) (hi : i < 100) (w : World) :
    Calls Tryz.prog 211 #[.int .i64 i] w fun e w' => e = .returned (.string ⟨(Lib.decDigits i).toArray⟩) ∧ w' = w := Any.internal_strconv_Itoa_small Tryz.lays243 i hi w
def Tryz.laysM171_ren : Go.Shelf.Ren := ⟨fun | 171 => 186 | 243 => 211 | 246 => 224 | 283 => 229 | 284 => 230 | 285 => 231 | 286 => 232 | 129 => 200 | 317 => 235 | 318 => 236 | 319 => 237 | 320 => 238 | 337 => 239 | 338 => 240 | n => n, fun | 3 => 3 | 9 => 9 | 2 => 2 | 4 => 4 | 171 => 316 | 0 => 0 | 53 => 291 | 37 => 269 | 5 => 5 | 173 => 318 | 212 => 322 | 51 => 289 | 20 => 20 | 213 => 323 | 46 => 220 | 232 => 324 | 233 => 325 | n => n, fun | 17 => 2 | 18 => 3 | 19 => 4 | n => n⟩
theorem Tryz.laysM171 : Go.Proofs.LaysM.n171 Tryz.prog Tryz.laysM171_ren := {
  mixed := by kernel_rfl
  f129 := Tryz.func200.trans (congrArg some (by kernel_rfl))
  f171 := Tryz.func186.trans (congrArg some (by kernel_rfl))
  f243 := Tryz.func211.trans (congrArg some (by kernel_rfl))
  f246 := Tryz.func224.trans (congrArg some (by kernel_rfl))
  f283 := Tryz.func229.trans (congrArg some (by kernel_rfl))
  f284 := Tryz.func230.trans (congrArg some (by kernel_rfl))
  f285 := Tryz.func231.trans (congrArg some (by kernel_rfl))
  f286 := Tryz.func232.trans (congrArg some (by kernel_rfl))
  f317 := Tryz.func235.trans (congrArg some (by kernel_rfl))
  f318 := Tryz.func236.trans (congrArg some (by kernel_rfl))
  f319 := Tryz.func237.trans (congrArg some (by kernel_rfl))
  f320 := Tryz.func238.trans (congrArg some (by kernel_rfl))
  f337 := Tryz.func239.trans (congrArg some (by kernel_rfl))
  f338 := Tryz.func240.trans (congrArg some (by kernel_rfl))
  t0 := Tryz.underlying0
  a0 := Tryz.isAgg0
  z0 := Tryz.sizeOf0
  v0 := Tryz.zeroValue0
  t2 := Tryz.underlying2
  a2 := Tryz.isAgg2
  z2 := Tryz.sizeOf2
  v2 := Tryz.zeroValue2
  t3 := Tryz.underlying3
  a3 := Tryz.isAgg3
  z3 := Tryz.sizeOf3
  v3 := Tryz.zeroValue3
  t4 := Tryz.underlying4
  a4 := Tryz.isAgg4
  z4 := Tryz.sizeOf4
  v4 := Tryz.zeroValue4
  t5 := Tryz.underlying5
  a5 := Tryz.isAgg5
  z5 := Tryz.sizeOf5
  v5 := Tryz.zeroValue5
  t9 := Tryz.underlying9
  a9 := Tryz.isAgg9
  z9 := Tryz.sizeOf9
  v9 := Tryz.zeroValue9
  t20 := Tryz.underlying20
  a20 := Tryz.isAgg20
  z20 := Tryz.sizeOf20
  v20 := Tryz.zeroValue20
  t37 := Tryz.underlying269
  a37 := Tryz.isAgg269
  z37 := Tryz.sizeOf269
  v37 := Tryz.zeroValue269
  t46 := Tryz.underlying220
  a46 := Tryz.isAgg220
  z46 := Tryz.sizeOf220
  v46 := Tryz.zeroValue220
  t51 := Tryz.underlying289
  a51 := Tryz.isAgg289
  z51 := Tryz.sizeOf289
  v51 := Tryz.zeroValue289
  t53 := Tryz.underlying291
  a53 := Tryz.isAgg291
  z53 := Tryz.sizeOf291
  v53 := Tryz.zeroValue291
  t171 := Tryz.underlying316
  a171 := Tryz.isAgg316
  z171 := Tryz.sizeOf316
  v171 := Tryz.zeroValue316
  t173 := Tryz.underlying318
  a173 := Tryz.isAgg318
  z173 := Tryz.sizeOf318
  v173 := Tryz.zeroValue318
  t212 := Tryz.underlying322
  a212 := Tryz.isAgg322
  z212 := Tryz.sizeOf322
  v212 := Tryz.zeroValue322
  t213 := Tryz.underlying323
  a213 := Tryz.isAgg323
  z213 := Tryz.sizeOf323
  t232 := Tryz.underlying324
  a232 := Tryz.isAgg324
  z232 := Tryz.sizeOf324
  v232 := Tryz.zeroValue324
  t233 := Tryz.underlying325
  a233 := Tryz.isAgg325
  z233 := Tryz.sizeOf325
  v233 := Tryz.zeroValue325
  g17 := by kernel_rfl
  g18 := by kernel_rfl
  g19 := by kernel_rfl
  i0 := by kernel_rfl
  i2 := by kernel_rfl
  i3 := by kernel_rfl
  i4 := by kernel_rfl
  i5 := by kernel_rfl
  i9 := by kernel_rfl
  i20 := by kernel_rfl
  i37 := by kernel_rfl
  i46 := by kernel_rfl
  i51 := by kernel_rfl
  i53 := by kernel_rfl
  i171 := by kernel_rfl
  i173 := by kernel_rfl
  i212 := by kernel_rfl
  i232 := by kernel_rfl
  i233 := by kernel_rfl
  m17 := by kernel_rfl
  m18 := by kernel_rfl
  m19 := by kernel_rfl }
open Go.RowKit Go.Sort Go.Lib in
/-- strconv.Itoa: "Itoa is equivalent to FormatInt(int64(i), 10).": i's DECIMAL NUMERAL ('Lib.itoa': a '-' where i is negative, then the digits), FOR EVERY int. The world behind the call: the world before it, new blocks behind the heap (the library's 'var a [24]byte'), draws. (LAID: no walk: one application.) -/
theorem Tryz.strconv_Itoa (n : Int) (h0 : -9223372036854775808 ≤ n) (h1 : n ≤ 9223372036854775807) (w : World) (htab : Lib.TabIs Tryz.prog w "internal/strconv.uint64pow10" .u64 Lib.pow10Tab) :
    Calls Tryz.prog 186 #[.int .i64 n] w fun e w' => e = .returned (.string ⟨(Lib.itoa n).toArray⟩) ∧ ∃ k os, w' = grow (w.drewN k) os := Any.strconv_Itoa Tryz.laysM171 n h0 h1 w htab
def Tryz.lays171_ren : Go.Shelf.Ren := ⟨fun | 171 => 186 | 243 => 211 | 246 => 224 | 283 => 229 | 284 => 230 | 285 => 231 | 286 => 232 | 129 => 200 | 317 => 235 | 318 => 236 | 319 => 237 | 320 => 238 | 337 => 239 | 338 => 240 | n => n, fun | 3 => 3 | 9 => 9 | 2 => 2 | 4 => 4 | 171 => 316 | 0 => 0 | 53 => 291 | 37 => 269 | 5 => 5 | 173 => 318 | 212 => 322 | 51 => 289 | 20 => 20 | 213 => 323 | 46 => 220 | 232 => 324 | 233 => 325 | n => n, fun | 17 => 2 | 18 => 3 | 19 => 4 | n => n⟩
theorem Tryz.lays171 : Go.Proofs.Lays.n171 Tryz.prog Tryz.lays171_ren := {
  mixed := by kernel_rfl
  f129 := Tryz.func200.trans (congrArg some (by kernel_rfl))
  f171 := Tryz.func186.trans (congrArg some (by kernel_rfl))
  f243 := Tryz.func211.trans (congrArg some (by kernel_rfl))
  f246 := Tryz.func224.trans (congrArg some (by kernel_rfl))
  f283 := Tryz.func229.trans (congrArg some (by kernel_rfl))
  f284 := Tryz.func230.trans (congrArg some (by kernel_rfl))
  f285 := Tryz.func231.trans (congrArg some (by kernel_rfl))
  f286 := Tryz.func232.trans (congrArg some (by kernel_rfl))
  f317 := Tryz.func235.trans (congrArg some (by kernel_rfl))
  f318 := Tryz.func236.trans (congrArg some (by kernel_rfl))
  f319 := Tryz.func237.trans (congrArg some (by kernel_rfl))
  f320 := Tryz.func238.trans (congrArg some (by kernel_rfl))
  f337 := Tryz.func239.trans (congrArg some (by kernel_rfl))
  f338 := Tryz.func240.trans (congrArg some (by kernel_rfl))
  t0 := Tryz.underlying0
  a0 := Tryz.isAgg0
  z0 := Tryz.sizeOf0
  v0 := Tryz.zeroValue0
  t2 := Tryz.underlying2
  a2 := Tryz.isAgg2
  z2 := Tryz.sizeOf2
  v2 := Tryz.zeroValue2
  t3 := Tryz.underlying3
  a3 := Tryz.isAgg3
  z3 := Tryz.sizeOf3
  v3 := Tryz.zeroValue3
  t4 := Tryz.underlying4
  a4 := Tryz.isAgg4
  z4 := Tryz.sizeOf4
  v4 := Tryz.zeroValue4
  t5 := Tryz.underlying5
  a5 := Tryz.isAgg5
  z5 := Tryz.sizeOf5
  v5 := Tryz.zeroValue5
  t9 := Tryz.underlying9
  a9 := Tryz.isAgg9
  z9 := Tryz.sizeOf9
  v9 := Tryz.zeroValue9
  t20 := Tryz.underlying20
  a20 := Tryz.isAgg20
  z20 := Tryz.sizeOf20
  v20 := Tryz.zeroValue20
  t37 := Tryz.underlying269
  a37 := Tryz.isAgg269
  z37 := Tryz.sizeOf269
  v37 := Tryz.zeroValue269
  t46 := Tryz.underlying220
  a46 := Tryz.isAgg220
  z46 := Tryz.sizeOf220
  v46 := Tryz.zeroValue220
  t51 := Tryz.underlying289
  a51 := Tryz.isAgg289
  z51 := Tryz.sizeOf289
  v51 := Tryz.zeroValue289
  t53 := Tryz.underlying291
  a53 := Tryz.isAgg291
  z53 := Tryz.sizeOf291
  v53 := Tryz.zeroValue291
  t171 := Tryz.underlying316
  a171 := Tryz.isAgg316
  z171 := Tryz.sizeOf316
  v171 := Tryz.zeroValue316
  t173 := Tryz.underlying318
  a173 := Tryz.isAgg318
  z173 := Tryz.sizeOf318
  v173 := Tryz.zeroValue318
  t212 := Tryz.underlying322
  a212 := Tryz.isAgg322
  z212 := Tryz.sizeOf322
  v212 := Tryz.zeroValue322
  t213 := Tryz.underlying323
  a213 := Tryz.isAgg323
  z213 := Tryz.sizeOf323
  t232 := Tryz.underlying324
  a232 := Tryz.isAgg324
  z232 := Tryz.sizeOf324
  v232 := Tryz.zeroValue324
  t233 := Tryz.underlying325
  a233 := Tryz.isAgg325
  z233 := Tryz.sizeOf325
  v233 := Tryz.zeroValue325
  g17 := by kernel_rfl
  g18 := by kernel_rfl
  g19 := by kernel_rfl }
open Go.RowKit Go.Sort Go.Lib in
/-- THE ROAD WITHOUT THE TABLE: 0 <= i < 100: NO PREMISE ON THE WORLD, AND THE WORLD IS AS IT WAS: a row that keeps its argument in that range need list no table ('laid = []'). (LAID: no walk: one application.) -/
theorem Tryz.strconv_Itoa_small (i : Nat) (hi : i < 100) (w : World) :
    Calls Tryz.prog 186 #[.int .i64 i] w fun e w' => e = .returned (.string ⟨(Lib.decDigits i).toArray⟩) ∧ w' = w := Any.strconv_Itoa_small Tryz.lays171 i hi w
def Tryz.lays189_ren : Go.Shelf.Ren := ⟨fun | 189 => 119 | 125 => 165 | 257 => 164 | 128 => 199 | 129 => 200 | 294 => 190 | 295 => 191 | 296 => 192 | 297 => 193 | 298 => 194 | 299 => 195 | 216 => 196 | 300 => 197 | 301 => 198 | 328 => 213 | 329 => 214 | 330 => 215 | 331 => 216 | 332 => 217 | 215 => 208 | 343 => 225 | n => n, fun | 28 => 22 | 3 => 3 | 46 => 220 | 0 => 0 | 51 => 289 | 53 => 291 | 4 => 4 | 183 => 283 | 182 => 282 | 131 => 204 | 5 => 5 | 9 => 9 | 218 => 298 | 222 => 302 | 228 => 312 | 229 => 313 | n => n, fun | n => n⟩
theorem Tryz.lays189 : Go.Proofs.Lays.n189 Tryz.prog Tryz.lays189_ren := {
  mixed := by kernel_rfl
  f125 := Tryz.func165.trans (congrArg some (by kernel_rfl))
  f128 := Tryz.func199.trans (congrArg some (by kernel_rfl))
  f129 := Tryz.func200.trans (congrArg some (by kernel_rfl))
  f189 := Tryz.func119.trans (congrArg some (by kernel_rfl))
  f215 := Tryz.func208.trans (congrArg some (by kernel_rfl))
  f216 := Tryz.func196.trans (congrArg some (by kernel_rfl))
  f257 := Tryz.func164.trans (congrArg some (by kernel_rfl))
  f294 := Tryz.func190.trans (congrArg some (by kernel_rfl))
  f295 := Tryz.func191.trans (congrArg some (by kernel_rfl))
  f296 := Tryz.func192.trans (congrArg some (by kernel_rfl))
  f297 := Tryz.func193.trans (congrArg some (by kernel_rfl))
  f298 := Tryz.func194.trans (congrArg some (by kernel_rfl))
  f299 := Tryz.func195.trans (congrArg some (by kernel_rfl))
  f300 := Tryz.func197.trans (congrArg some (by kernel_rfl))
  f301 := Tryz.func198.trans (congrArg some (by kernel_rfl))
  f328 := Tryz.func213.trans (congrArg some (by kernel_rfl))
  f329 := Tryz.func214.trans (congrArg some (by kernel_rfl))
  f330 := Tryz.func215.trans (congrArg some (by kernel_rfl))
  f331 := Tryz.func216.trans (congrArg some (by kernel_rfl))
  f332 := Tryz.func217.trans (congrArg some (by kernel_rfl))
  f343 := Tryz.func225.trans (congrArg some (by kernel_rfl))
  t0 := Tryz.underlying0
  a0 := Tryz.isAgg0
  z0 := Tryz.sizeOf0
  v0 := Tryz.zeroValue0
  t3 := Tryz.underlying3
  a3 := Tryz.isAgg3
  z3 := Tryz.sizeOf3
  v3 := Tryz.zeroValue3
  t4 := Tryz.underlying4
  a4 := Tryz.isAgg4
  z4 := Tryz.sizeOf4
  v4 := Tryz.zeroValue4
  t5 := Tryz.underlying5
  a5 := Tryz.isAgg5
  z5 := Tryz.sizeOf5
  v5 := Tryz.zeroValue5
  t9 := Tryz.underlying9
  a9 := Tryz.isAgg9
  z9 := Tryz.sizeOf9
  v9 := Tryz.zeroValue9
  t28 := Tryz.underlying22
  a28 := Tryz.isAgg22
  z28 := Tryz.sizeOf22
  v28 := Tryz.zeroValue22
  t46 := Tryz.underlying220
  a46 := Tryz.isAgg220
  z46 := Tryz.sizeOf220
  v46 := Tryz.zeroValue220
  t51 := Tryz.underlying289
  a51 := Tryz.isAgg289
  z51 := Tryz.sizeOf289
  v51 := Tryz.zeroValue289
  t53 := Tryz.underlying291
  a53 := Tryz.isAgg291
  z53 := Tryz.sizeOf291
  v53 := Tryz.zeroValue291
  t131 := Tryz.underlying204
  a131 := Tryz.isAgg204
  z131 := Tryz.sizeOf204
  v131 := Tryz.zeroValue204
  t182 := Tryz.underlying282
  a182 := Tryz.isAgg282
  z182 := Tryz.sizeOf282
  v182 := Tryz.zeroValue282
  t183 := Tryz.underlying283
  a183 := Tryz.isAgg283
  z183 := Tryz.sizeOf283
  v183 := Tryz.zeroValue283
  t218 := Tryz.underlying298
  a218 := Tryz.isAgg298
  z218 := Tryz.sizeOf298
  v218 := Tryz.zeroValue298
  t222 := Tryz.underlying302
  a222 := Tryz.isAgg302
  z222 := Tryz.sizeOf302
  v222 := Tryz.zeroValue302
  t228 := Tryz.underlying312
  a228 := Tryz.isAgg312
  z228 := Tryz.sizeOf312
  v228 := Tryz.zeroValue312
  t229 := Tryz.underlying313
  a229 := Tryz.isAgg313
  z229 := Tryz.sizeOf313
  v229 := Tryz.zeroValue313 }
open Go.Sort Go.RowKit in
theorem Tryz.slices_Sort_int (blk off cap : Nat) (zs : List Int) (w : World) (hH : Holds (Value.int .i64) w blk off zs.toArray) (hblk : blk < w.heap.size) (hsz : zs.length < 4611686018427387904) :
    Calls Tryz.prog 119 #[.slice (some ⟨blk, off, none⟩) zs.length cap] w fun e w' =>
      e = .returned (.tuple #[]) ∧ ∃ n os, w' = grow (putRow (Value.int .i64) (Sort.ahead w n) blk off (zs.mergeSort fun x y => decide (x ≤ y)).toArray) os := Any.slices_Sort_int Tryz.lays189 blk off cap zs w hH hblk hsz
def Tryz.laysNm220_ren : Go.Shelf.Ren := ⟨fun | 20 => 139 | n => n, fun | 22 => 22 | 3 => 3 | 4 => 4 | 0 => 0 | n => n, fun | n => n⟩
theorem Tryz.laysNm220 : Go.Proofs.Lays2.n20 Tryz.prog Tryz.laysNm220_ren := {
  mixed := by kernel_rfl
  f20 := Tryz.func139.trans (congrArg some (by kernel_rfl))
  t0 := Tryz.underlying0
  a0 := Tryz.isAgg0
  z0 := Tryz.sizeOf0
  v0 := Tryz.zeroValue0
  t3 := Tryz.underlying3
  a3 := Tryz.isAgg3
  z3 := Tryz.sizeOf3
  v3 := Tryz.zeroValue3
  t4 := Tryz.underlying4
  a4 := Tryz.isAgg4
  z4 := Tryz.sizeOf4
  v4 := Tryz.zeroValue4
  t22 := Tryz.underlying22
  a22 := Tryz.isAgg22
  z22 := Tryz.sizeOf22
  v22 := Tryz.zeroValue22
  i3 := by kernel_rfl }
open Go.RowKit Go.Lib Go.Sort in
/-- slices.Compact at []int, over an array: the library's two loops are walked. (LAID: no walk: one application.) -/
theorem Tryz.slices_Compact_int_arr (blk off cap : Nat) (d : Array Int) (w : World) (hH : Holds encI w blk off d) (hsz : d.size ≤ 9223372036854775807) (hcap : d.size ≤ cap) :
    Calls Tryz.prog 139 #[.slice (some ⟨blk, off, none⟩) d.size cap] w fun e w' => e = .returned (.slice (some ⟨blk, off, none⟩) (compactUpTo d d.size).length cap) ∧ ∃ q, w' = putRow encI (Sort.ahead w q) blk off (compactUpTo d d.size ++ List.replicate (d.size - (compactUpTo d d.size).length) 0).toArray := Any.slices_Compact_int_arr Tryz.laysNm220 blk off cap d w hH hsz hcap
open Go.RowKit Go.Lib Go.Sort in
/-- slices.Compact at []int: "Compact replaces consecutive runs of equal elements with a single copy. This is like the uniq command found on Unix. Compact modifies the contents of the slice s and returns the modified slice, which may have a smaller length. Compact zeroes the elements between the new length and the original length. The result preserves the nilness of s.": IT RETURNS THE SLICE CUT TO 'Lib.compact zs'; ITS CELLS HOLD 'Lib.compact zs', THEN ZERO VALUES up to the old length; all else is asl it was, but for the count of draws. IN THE WORDS OF slices.Sort's CONTRACT ('Holds', 'putRow'): so the everyday 'slices.Sort(xs); xs = slices.Compact(xs)' goes from the one contract to the other. It asks 'zs.length ≤ cap' (every slice's: the reslicing 's[:k]' looks at it). Length 0, nil: '.._empty'. (LAID: no walk: one application.) -/
theorem Tryz.slices_Compact_int (blk off cap : Nat) (zs : List Int) (w : World) (hH : Holds (Value.int .i64) w blk off zs.toArray) (hsz : zs.length ≤ 9223372036854775807) (hcap : zs.length ≤ cap) :
    Calls Tryz.prog 139 #[.slice (some ⟨blk, off, none⟩) zs.length cap] w fun e w' => e = .returned (.slice (some ⟨blk, off, none⟩) (Lib.compact zs).length cap) ∧ ∃ q, w' = putRow (Value.int .i64) (Sort.ahead w q) blk off (Lib.compact zs ++ List.replicate (zs.length - (Lib.compact zs).length) 0).toArray := Any.slices_Compact_int Tryz.laysNm220 blk off cap zs w hH hsz hcap
open Go.RowKit Go.Lib Go.Sort in
/-- The same at a slice of length 0, a nil one too: it comes back asl it is. (LAID: no walk: one application.) -/
theorem Tryz.slices_Compact_int_empty (a : Option Addr) (cap : Nat) (w : World) :
    Calls Tryz.prog 139 #[.slice a 0 cap] w fun e w' => e = .returned (.slice a 0 cap) ∧ w' = w := Any.slices_Compact_int_empty Tryz.laysNm220 a cap w
def Tryz.laysNm237_ren : Go.Shelf.Ren := ⟨fun | 37 => 208 | n => n, fun | 3 => 3 | 4 => 4 | n => n, fun | n => n⟩
theorem Tryz.laysNm237 : Go.Proofs.Lays2.n37 Tryz.prog Tryz.laysNm237_ren := {
  mixed := by kernel_rfl
  f37 := Tryz.func208.trans (congrArg some (by kernel_rfl))
  t3 := Tryz.underlying3
  a3 := Tryz.isAgg3
  z3 := Tryz.sizeOf3
  v3 := Tryz.zeroValue3
  t4 := Tryz.underlying4
  a4 := Tryz.isAgg4
  z4 := Tryz.sizeOf4
  v4 := Tryz.zeroValue4 }
open Go.RowKit Go.Lib in
/-- cmp.isNaN[int]: 'x != x': false. (LAID: no walk: one application.) -/
theorem Tryz.cmp_isNaN_int2 (x : Int) (w : World) :
    Calls Tryz.prog 208 #[.int .i64 x] w fun e w' => e = .returned (.bool false) ∧ w' = w := Any.cmp_isNaN_int2 Tryz.laysNm237 x w
def Tryz.laysNm231_ren : Go.Shelf.Ren := ⟨fun | 31 => 196 | 37 => 208 | n => n, fun | 3 => 3 | 4 => 4 | n => n, fun | n => n⟩
theorem Tryz.laysNm231 : Go.Proofs.Lays2.n31 Tryz.prog Tryz.laysNm231_ren := {
  mixed := by kernel_rfl
  f31 := Tryz.func196.trans (congrArg some (by kernel_rfl))
  f37 := Tryz.func208.trans (congrArg some (by kernel_rfl))
  t3 := Tryz.underlying3
  a3 := Tryz.isAgg3
  z3 := Tryz.sizeOf3
  v3 := Tryz.zeroValue3
  t4 := Tryz.underlying4
  a4 := Tryz.isAgg4
  z4 := Tryz.sizeOf4
  v4 := Tryz.zeroValue4 }
open Go.RowKit Go.Lib in
/-- cmp.Less[int]: "Less reports whether x is less than y.": 'x < y'; the world is asl it was. (LAID: no walk: one application.) -/
theorem Tryz.cmp_Less_int2 (x y : Int) (w : World) :
    Calls Tryz.prog 196 #[.int .i64 x, .int .i64 y] w fun e w' => e = .returned (.bool (decide (x < y))) ∧ w' = w := Any.cmp_Less_int2 Tryz.laysNm231 x y w
open Go.RowKit Go.Lib Go.Sort in
/-- slices.Compact at []int, of an argument: the slice cut to 'Lib.compact (elements)'; the n cells hold that, then zeros. (LAID: no walk: one application.) -/
theorem Tryz.slices_Compact_int_cells (b off n c : Nat) (zs : List Int) (w : World) (hz : n ≤ zs.length) (hbig : n ≤ 9223372036854775807) (hcap : n ≤ c) (hc : ∀ j, j < zs.length → w.cell? ⟨b, off + j, none⟩ = some (.int .i64 (zs.getD j 0))) (hf : ∀ j, j < n → w.frozen? ⟨b, off + j, none⟩ = false) :
    Calls Tryz.prog 139 #[.slice (some ⟨b, off, none⟩) n c] w fun e w' => e = .returned (.slice (some ⟨b, off, none⟩) (Lib.compact (zs.take n)).length c) ∧ ∃ q, w' = (w.drewN q).setCells b off ((Lib.compact (zs.take n) ++ List.replicate (n - (Lib.compact (zs.take n)).length) 0).map (Value.int .i64)) := Any.slices_Compact_int_cells Tryz.laysNm220 b off n c zs w hz hbig hcap hc hf
open Go.RowKit Go.Sort in
/-- .. and plain. (LAID: no walk: one application.) -/
theorem Tryz.slices_Sort_int_none (p : Option Addr) (cap : Nat) (w : World) :
    Calls Tryz.prog 119 #[.slice p 0 cap] w fun e w' => e = .returned (.tuple #[]) ∧ w' = w := Any.slices_Sort_int_none Tryz.lays189 p cap w
def Tryz.laysSlE041_f166_ren : Go.Shelf.Ren := ⟨fun | 41 => 166 | n => n, fun | 22 => 124 | 23 => 127 | 4 => 4 | n => n, fun | n => n⟩
theorem Tryz.laysSlE041_f166 : Go.Proofs.SlLaysE0.n41 Tryz.prog Tryz.laysSlE041_f166_ren := {
  mixed := by kernel_rfl
  f41 := ⟨Tryz.f166.name, by decide, Tryz.func166.trans (congrArg some (by kernel_rfl))⟩
  t4 := Tryz.underlying4
  a4 := Tryz.isAgg4
  z4 := Tryz.sizeOf4
  v4 := Tryz.zeroValue4
  t22 := Tryz.underlying124
  a22 := Tryz.isAgg124
  z22 := Tryz.sizeOf124
  v22 := Tryz.zeroValue124 }
open Go.RowKit Go.Lib in
/-- slices.Clone: "Clone returns a copy of the slice. The elements are copied using assignment, so this is a shallow clone. The result may have additional unused capacity. The result preserves the nilness of s.": OF A SLICE THAT IS NOT nil IT RETURNS A SLICE THAT IS NOT nil, OF THE SAME CELLS, IN MEMORY OF THE CALL's OWN ('ownsRow': the how-to's 6f); below the heap's size at the call all is asl it was. (LAID AT THE INSTANCE 'slices.Clone[[]float32,float32]': no walk: one application.) -/
theorem Tryz.slices_Clone (i0 : TypeInfo) (z : Value) (size bytes : Nat) (hi : Tryz.prog.info? 127 = some i0) (hz0 : i0.zero = some z) (hz1 : i0.size = size) (hz2 : i0.bytes = bytes) (hzs : z.cells.size = size) (hsz : 0 < size) (z23 : ∀ w, (Go.sizeOf 127).run Tryz.prog w = .ok size w) (b off n c : Nat) (news : List Value) (w : World) (hl : news.length = n * size) (hn : n ≤ maxLen) (hbig : n * bytes ≤ 140737488355328) (hc : ∀ j u, news[j]? = some u → w.cell? ⟨b, off + j, none⟩ = some u) (h1 : ∀ u ∈ news, u.oneCell' = true) :
    Calls Tryz.prog 166 #[.slice (some ⟨b, off, none⟩) n c] w fun e w' => ∃ v', e = .returned v' ∧ w'.ownsRow w.heap.size 127 size v' n news ∧ v' ≠ .slice none 0 0 ∧ Below w.heap.size w w' := AnyE.slices_Clone Tryz.laysSlE041_f166 i0 z size bytes hi hz0 hz1 hz2 hzs hsz z23 b off n c news w hl hn hbig hc h1
open Go.RowKit Go.Lib in
/-- The same at nil: nil comes back; the world is asl it was; nothing is asked of the element's type. (LAID AT THE INSTANCE 'slices.Clone[[]float32,float32]': no walk: one application.) -/
theorem Tryz.slices_Clone_nil (n c : Nat) (w : World) :
    Calls Tryz.prog 166 #[.slice none n c] w fun e w' => e = .returned (.slice none 0 0) ∧ w' = w := AnyE.slices_Clone_nil Tryz.laysSlE041_f166 n c w
end Go.Proofs
