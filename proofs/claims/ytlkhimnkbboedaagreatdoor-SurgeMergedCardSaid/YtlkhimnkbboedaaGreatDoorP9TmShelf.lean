/- DERIVED: THE SHELF's CONTRACTS AT THIS DUMP, IN PLAIN WORDS (tools/lay-plain.mjs out of 'TryzShelf.lean', which tools/lay-shelf.mjs wrote): THE SAME DECLARATIONS UNDER THE SAME NAMES: 'import', 'namespace', 'open', 'def', 'theorem' AND NOTHING ELSE: no command of the shelf's: FOR A HAND-IN. Each laying: the table of numbers ('.._ren') and one theorem, a field a fact of the dump's own or the kernel's comparison; each contract: ONE APPLICATION. -/
import Derived.Shelf.Strings.Builder1
import Derived.Shelf.Strings.Builder2
import Derived.Shelf.Strings.OnBuilder
import Derived.Shelf.Small.Bits
import Derived.Shelf.Small.Wraps
import Derived.Shelf.Strings.BuilderF
import Derived.Shelf.Strings.BuilderK
import Derived.Shelf.Strings.Builder2Cap
import Derived.Shelf.Strconv.Itoa0
import Derived.Shelf.Strconv.Itoa1
import Derived.Shelf.LaysM
import Derived.Shelf.Strconv.Itoa2
import Derived.Shelf.Strconv.Itoa3
import Derived.Shelf.Sort.Plain
import Derived.Shelf.Slices.Turned
import Derived.Ground.Names2Prog
import Derived.Shelf.Slices.CompactI
import Derived.Shelf.Slices.SearchI
import Derived.Shelf.Slices.Cells
import Derived.Shelf.Slices.In.SortNone
import Derived.Ground.SlgnProg
import Derived.Shelf.SlicesE.Clone
import Derived.Test.YtlkhimnkbboedaaGreatDoorProg
set_option linter.all false
namespace Go.Proofs
open Go.Shelf
def Tryz.lays156_ren : Go.Shelf.Ren := ⟨fun | 156 => 84 | 165 => 121 | 166 => 122 | 169 => 123 | 240 => 147 | 241 => 148 | 276 => 160 | 277 => 161 | n => n, fun | 31 => 160 | 9 => 9 | 3 => 3 | 4 => 4 | 0 => 0 | 20 => 20 | 72 => 202 | 76 => 206 | 70 => 199 | 37 => 200 | 75 => 205 | 127 => 226 | 164 => 239 | 5 => 5 | 80 => 163 | n => n, fun | n => n⟩
theorem Tryz.lays156 : Go.Proofs.Lays.n156 Tryz.prog Tryz.lays156_ren := {
  mixed := by kernel_rfl
  f156 := Tryz.func84.trans (congrArg some (by kernel_rfl))
  f165 := Tryz.func121.trans (congrArg some (by kernel_rfl))
  f166 := Tryz.func122.trans (congrArg some (by kernel_rfl))
  f169 := Tryz.func123.trans (congrArg some (by kernel_rfl))
  f240 := Tryz.func147.trans (congrArg some (by kernel_rfl))
  f241 := Tryz.func148.trans (congrArg some (by kernel_rfl))
  f276 := Tryz.func160.trans (congrArg some (by kernel_rfl))
  f277 := Tryz.func161.trans (congrArg some (by kernel_rfl))
  t0 := Tryz.underlying0
  a0 := Tryz.isAgg0
  z0 := Tryz.sizeOf0
  v0 := Tryz.zeroValue0
  t3 := Tryz.underlying3
  a3 := Tryz.isAgg3
  z3 := Tryz.sizeOf3
  v3 := Tryz.zeroValue3
  t4 := Tryz.underlying4
  a4 := Tryz.isAgg4
  z4 := Tryz.sizeOf4
  v4 := Tryz.zeroValue4
  t9 := Tryz.underlying9
  a9 := Tryz.isAgg9
  z9 := Tryz.sizeOf9
  v9 := Tryz.zeroValue9
  t20 := Tryz.underlying20
  a20 := Tryz.isAgg20
  z20 := Tryz.sizeOf20
  v20 := Tryz.zeroValue20
  t31 := Tryz.underlying160
  a31 := Tryz.isAgg160
  z31 := Tryz.sizeOf160
  v31 := Tryz.zeroValue160
  t37 := Tryz.underlying200
  a37 := Tryz.isAgg200
  z37 := Tryz.sizeOf200
  v37 := Tryz.zeroValue200
  t70 := Tryz.underlying199
  a70 := Tryz.isAgg199
  z70 := Tryz.sizeOf199
  v70 := Tryz.zeroValue199
  t72 := Tryz.underlying202
  a72 := Tryz.isAgg202
  z72 := Tryz.sizeOf202
  v72 := Tryz.zeroValue202
  t75 := Tryz.underlying205
  a75 := Tryz.isAgg205
  z75 := Tryz.sizeOf205
  v75 := Tryz.zeroValue205
  t76 := Tryz.underlying206
  a76 := Tryz.isAgg206
  z76 := Tryz.sizeOf206
  v76 := Tryz.zeroValue206
  t127 := Tryz.underlying226
  a127 := Tryz.isAgg226
  z127 := Tryz.sizeOf226
  v127 := Tryz.zeroValue226
  t164 := Tryz.underlying239
  a164 := Tryz.isAgg239
  z164 := Tryz.sizeOf239
  v164 := Tryz.zeroValue239 }
theorem Tryz.Builder_Extra_156 : Builder.Extra Tryz.prog Tryz.lays156_ren := {
  sizeBuilder := by kernel_rfl
  liesBuilder := by kernel_rfl
  t5 := Tryz.underlying5
  a5 := Tryz.isAgg5
  z5 := Tryz.sizeOf5
  v5 := Tryz.zeroValue5
  infoByte := by kernel_rfl
  cellsByte := by kernel_rfl
  sizeByte := by kernel_rfl
  neB5 := by decide }
open Go.RowKit in
theorem Tryz.strings_Join (bk o c : Nat) (xs : List ByteArray) (sep : ByteArray) (w : World) (hcells : ∀ (j : Nat) x, xs[j]? = some x → w.cell? ⟨bk, o + j, none⟩ = some (.string x)) (hbk : bk < w.heap.size) (hN : xs.length ≤ 140737488355328) (hcap : xs.length ≤ c) (hlen : (Lib.join (xs.map (·.data.toList)) sep.data.toList).length ≤ 140737488355328) :
    Calls Tryz.prog 84 #[.slice (some ⟨bk, o, none⟩) xs.length c, .string sep] w fun e w' => e = .returned (.string ⟨(Lib.join (xs.map (·.data.toList)) sep.data.toList).toArray⟩) ∧ Below w.heap.size w w' := Any.strings_Join Tryz.lays156 Tryz.Builder_Extra_156 bk o c xs sep w hcells hbk hN hcap hlen
def Tryz.laysM246_ren : Go.Shelf.Ren := ⟨fun | 246 => 162 | 283 => 167 | 284 => 168 | 285 => 169 | 286 => 170 | 129 => 146 | 317 => 173 | 318 => 174 | 319 => 175 | 320 => 176 | 337 => 177 | 338 => 178 | n => n, fun | 2 => 2 | 3 => 3 | 9 => 9 | 4 => 4 | 171 => 247 | 0 => 0 | 53 => 225 | 37 => 200 | 5 => 5 | 173 => 249 | 212 => 253 | 51 => 223 | 20 => 20 | 213 => 254 | 46 => 198 | 232 => 255 | 233 => 256 | n => n, fun | 17 => 2 | 18 => 3 | 19 => 4 | n => n⟩
def Tryz.laysM243_ren : Go.Shelf.Ren := ⟨fun | 243 => 149 | 246 => 162 | 283 => 167 | 284 => 168 | 285 => 169 | 286 => 170 | 129 => 146 | 317 => 173 | 318 => 174 | 319 => 175 | 320 => 176 | 337 => 177 | 338 => 178 | n => n, fun | 3 => 3 | 9 => 9 | 2 => 2 | 4 => 4 | 171 => 247 | 0 => 0 | 53 => 225 | 37 => 200 | 5 => 5 | 173 => 249 | 212 => 253 | 51 => 223 | 20 => 20 | 213 => 254 | 46 => 198 | 232 => 255 | 233 => 256 | n => n, fun | 17 => 2 | 18 => 3 | 19 => 4 | n => n⟩
theorem Tryz.laysM243 : Go.Proofs.LaysM.n243 Tryz.prog Tryz.laysM243_ren := {
  mixed := by kernel_rfl
  f129 := Tryz.func146.trans (congrArg some (by kernel_rfl))
  f243 := Tryz.func149.trans (congrArg some (by kernel_rfl))
  f246 := Tryz.func162.trans (congrArg some (by kernel_rfl))
  f283 := Tryz.func167.trans (congrArg some (by kernel_rfl))
  f284 := Tryz.func168.trans (congrArg some (by kernel_rfl))
  f285 := Tryz.func169.trans (congrArg some (by kernel_rfl))
  f286 := Tryz.func170.trans (congrArg some (by kernel_rfl))
  f317 := Tryz.func173.trans (congrArg some (by kernel_rfl))
  f318 := Tryz.func174.trans (congrArg some (by kernel_rfl))
  f319 := Tryz.func175.trans (congrArg some (by kernel_rfl))
  f320 := Tryz.func176.trans (congrArg some (by kernel_rfl))
  f337 := Tryz.func177.trans (congrArg some (by kernel_rfl))
  f338 := Tryz.func178.trans (congrArg some (by kernel_rfl))
  t0 := Tryz.underlying0
  a0 := Tryz.isAgg0
  z0 := Tryz.sizeOf0
  v0 := Tryz.zeroValue0
  t2 := Tryz.underlying2
  a2 := Tryz.isAgg2
  z2 := Tryz.sizeOf2
  v2 := Tryz.zeroValue2
  t3 := Tryz.underlying3
  a3 := Tryz.isAgg3
  z3 := Tryz.sizeOf3
  v3 := Tryz.zeroValue3
  t4 := Tryz.underlying4
  a4 := Tryz.isAgg4
  z4 := Tryz.sizeOf4
  v4 := Tryz.zeroValue4
  t5 := Tryz.underlying5
  a5 := Tryz.isAgg5
  z5 := Tryz.sizeOf5
  v5 := Tryz.zeroValue5
  t9 := Tryz.underlying9
  a9 := Tryz.isAgg9
  z9 := Tryz.sizeOf9
  v9 := Tryz.zeroValue9
  t20 := Tryz.underlying20
  a20 := Tryz.isAgg20
  z20 := Tryz.sizeOf20
  v20 := Tryz.zeroValue20
  t37 := Tryz.underlying200
  a37 := Tryz.isAgg200
  z37 := Tryz.sizeOf200
  v37 := Tryz.zeroValue200
  t46 := Tryz.underlying198
  a46 := Tryz.isAgg198
  z46 := Tryz.sizeOf198
  v46 := Tryz.zeroValue198
  t51 := Tryz.underlying223
  a51 := Tryz.isAgg223
  z51 := Tryz.sizeOf223
  v51 := Tryz.zeroValue223
  t53 := Tryz.underlying225
  a53 := Tryz.isAgg225
  z53 := Tryz.sizeOf225
  v53 := Tryz.zeroValue225
  t171 := Tryz.underlying247
  a171 := Tryz.isAgg247
  z171 := Tryz.sizeOf247
  v171 := Tryz.zeroValue247
  t173 := Tryz.underlying249
  a173 := Tryz.isAgg249
  z173 := Tryz.sizeOf249
  v173 := Tryz.zeroValue249
  t212 := Tryz.underlying253
  a212 := Tryz.isAgg253
  z212 := Tryz.sizeOf253
  v212 := Tryz.zeroValue253
  t213 := Tryz.underlying254
  a213 := Tryz.isAgg254
  z213 := Tryz.sizeOf254
  t232 := Tryz.underlying255
  a232 := Tryz.isAgg255
  z232 := Tryz.sizeOf255
  v232 := Tryz.zeroValue255
  t233 := Tryz.underlying256
  a233 := Tryz.isAgg256
  z233 := Tryz.sizeOf256
  v233 := Tryz.zeroValue256
  g17 := by kernel_rfl
  g18 := by kernel_rfl
  g19 := by kernel_rfl
  i0 := by kernel_rfl
  i2 := by kernel_rfl
  i3 := by kernel_rfl
  i4 := by kernel_rfl
  i5 := by kernel_rfl
  i9 := by kernel_rfl
  i20 := by kernel_rfl
  i37 := by kernel_rfl
  i46 := by kernel_rfl
  i51 := by kernel_rfl
  i53 := by kernel_rfl
  i171 := by kernel_rfl
  i173 := by kernel_rfl
  i212 := by kernel_rfl
  i232 := by kernel_rfl
  i233 := by kernel_rfl
  m17 := by kernel_rfl
  m18 := by kernel_rfl
  m19 := by kernel_rfl }
open Go.RowKit Go.Sort Go.Lib in
theorem Tryz.internal_strconv_Itoa (n : Int) (h0 : -9223372036854775808 ≤ n) (h1 : n ≤ 9223372036854775807) (w : World) (htab : Lib.TabIs Tryz.prog w "internal/strconv.uint64pow10" .u64 Lib.pow10Tab) :
    Calls Tryz.prog 149 #[.int .i64 n] w fun e w' => e = .returned (.string ⟨(Lib.itoa n).toArray⟩) ∧ ∃ k os, w' = grow (w.drewN k) os := Any.internal_strconv_Itoa Tryz.laysM243 n h0 h1 w htab
end Go.Proofs
