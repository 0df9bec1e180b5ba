/- Parts of the proof: an evaluator of the model, what it is sound for, and contracts of functions. No condition. -/
import Derived.Shelf.Strings.Builder1
import Derived.Shelf.Small.Bits
import Derived.Shelf.Small.Wraps
import Derived.Shelf.Strings.BuilderF
import Derived.Shelf.Strings.BuilderK
import Derived.Shelf.Strconv.Atoi
import Derived.Shelf.Strconv.Itoa0
import Derived.Shelf.Strconv.Itoa1
import Derived.Shelf.LaysM
import Derived.Shelf.Strconv.Itoa2
import Derived.Shelf.Strconv.Itoa3
import Derived.Shelf.Strconv.AtoiErrFast
import Derived.Shelf.Strconv.ParseIntEmpty
import Derived.Shelf.Strconv.AtoiFail
import Derived.Shelf.Strconv.Clone
import Derived.Shelf.Strconv.SyntaxError
import Derived.Shelf.LaysC
import Derived.Shelf.Strconv.ToError
import Derived.Shelf.Strconv.Lower
import Derived.Shelf.Strconv.ParseUint10
import Derived.Shelf.Strconv.ParseUint10Empty
import Derived.Shelf.Strconv.ParseUint10Any
import Derived.Shelf.Strconv.ParseInt10
import Derived.Shelf.Strconv.AtoiLong
import Derived.Shelf.Strconv.AtoiInnerAll
import Derived.Shelf.Strconv.RangeError
import Derived.Shelf.Strconv.ToErrorRange
import Derived.Shelf.Strconv.AtoiAll
import Derived.Shelf.Strconv.ErrVarAll
import Derived.Shelf.Strconv.ParseUintEmpty
import Derived.Shelf.Strconv.ParseUint10b64
import Derived.Shelf.Strconv.ParseUint10b32
import Derived.Shelf.Strconv.ParseUint10b16
import Derived.Shelf.Strconv.ParseUint10b8
import Derived.Shelf.Strconv.ParseUint10At
import Derived.Shelf.Strings.Prefix
import Derived.Shelf.Strings.Split
import Derived.Shelf.Unicode.Decode
import Derived.Shelf.Strings.Explode
import Derived.Shelf.Bits.Mul64
import Derived.Shelf.Unicode.DecodeAny
import Derived.Shelf.Strings.BuilderCap
import Derived.Ground.Names2Prog
import Derived.Shelf.Slices.In.SortNone
import Derived.Ground.SlgnProg
import Derived.Shelf.SlicesE.Clone
import Derived.Test.YteooaaiacpcfoaaGreatDoorProg
import Derived.Test.YteooaaiacpcfoaaGreatDoorP8
import Derived.Shelf.Strings.OnBuilder
import Derived.Lib.AppendIntMem
import Derived.Test.YteooaaiacpcfoaaGreatDoorChecked
import Derived.KernelRfl
import Derived.Lib.AtoiErrMem
import Derived.Lib.AtoiAllCases
import Derived.Test.YteooaaiacpcfoaaGreatDoorP5
import Derived.Tactics2
import Derived.LaidLaws
import Derived.Test.YteooaaiacpcfoaaGreatDoorCards
import Derived.Test.YteooaaiacpcfoaaGreatDoorTie
import Derived.Test.YteooaaiacpcfoaaGreatDoorP6
import Derived.WalkKit
import Derived.ProofKit
import Derived.LaidMore
import Derived.Deep.DeepHandedRow
import Derived.Lib.LaidTab
import Derived.Stop.LaidErr
import Derived.Lib.LaidIn
set_option linter.all false
namespace Go.Proofs
open Go.Shelf
def Tryz.O7 : Go.Shelf.Ren := ⟨fun | 243 => 96 | 246 => 120 | 283 => 150 | 284 => 151 | 285 => 152 | 286 => 153 | 129 => 146 | 317 => 185 | 318 => 186 | 319 => 187 | 320 => 188 | 337 => 203 | 338 => 204 | n => n, fun | 3 => 3 | 9 => 9 | 2 => 2 | 4 => 4 | 171 => 207 | 0 => 0 | 53 => 202 | 37 => 26 | 5 => 5 | 173 => 209 | 212 => 239 | 51 => 83 | 20 => 20 | 213 => 240 | 46 => 144 | 232 => 260 | 233 => 261 | n => n, fun | 17 => 2 | 18 => 5 | 19 => 6 | n => n⟩
theorem Tryz.aeR : Go.Proofs.LaysM.n243 Tryz.prog Tryz.O7 := {
  mixed := by kernel_rfl
  f129 := Tryz.func146.trans (congrArg some (by kernel_rfl))
  f243 := Tryz.func96.trans (congrArg some (by kernel_rfl))
  f246 := Tryz.func120.trans (congrArg some (by kernel_rfl))
  f283 := Tryz.func150.trans (congrArg some (by kernel_rfl))
  f284 := Tryz.func151.trans (congrArg some (by kernel_rfl))
  f285 := Tryz.func152.trans (congrArg some (by kernel_rfl))
  f286 := Tryz.func153.trans (congrArg some (by kernel_rfl))
  f317 := Tryz.func185.trans (congrArg some (by kernel_rfl))
  f318 := Tryz.func186.trans (congrArg some (by kernel_rfl))
  f319 := Tryz.func187.trans (congrArg some (by kernel_rfl))
  f320 := Tryz.func188.trans (congrArg some (by kernel_rfl))
  f337 := Tryz.func203.trans (congrArg some (by kernel_rfl))
  f338 := Tryz.func204.trans (congrArg some (by kernel_rfl))
  t0 := Tryz.underlying0
  a0 := Tryz.isAgg0
  z0 := Tryz.sizeOf0
  v0 := Tryz.zeroValue0
  t2 := Tryz.underlying2
  a2 := Tryz.isAgg2
  z2 := Tryz.sizeOf2
  v2 := Tryz.zeroValue2
  t3 := Tryz.underlying3
  a3 := Tryz.isAgg3
  z3 := Tryz.sizeOf3
  v3 := Tryz.zeroValue3
  t4 := Tryz.underlying4
  a4 := Tryz.isAgg4
  z4 := Tryz.sizeOf4
  v4 := Tryz.zeroValue4
  t5 := Tryz.underlying5
  a5 := Tryz.isAgg5
  z5 := Tryz.sizeOf5
  v5 := Tryz.zeroValue5
  t9 := Tryz.underlying9
  a9 := Tryz.isAgg9
  z9 := Tryz.sizeOf9
  v9 := Tryz.zeroValue9
  t20 := Tryz.underlying20
  a20 := Tryz.isAgg20
  z20 := Tryz.sizeOf20
  v20 := Tryz.zeroValue20
  t37 := Tryz.underlying26
  a37 := Tryz.isAgg26
  z37 := Tryz.sizeOf26
  v37 := Tryz.zeroValue26
  t46 := Tryz.underlying144
  a46 := Tryz.isAgg144
  z46 := Tryz.sizeOf144
  v46 := Tryz.zeroValue144
  t51 := Tryz.underlying83
  a51 := Tryz.isAgg83
  z51 := Tryz.sizeOf83
  v51 := Tryz.zeroValue83
  t53 := Tryz.underlying202
  a53 := Tryz.isAgg202
  z53 := Tryz.sizeOf202
  v53 := Tryz.zeroValue202
  t171 := Tryz.underlying207
  a171 := Tryz.isAgg207
  z171 := Tryz.sizeOf207
  v171 := Tryz.zeroValue207
  t173 := Tryz.underlying209
  a173 := Tryz.isAgg209
  z173 := Tryz.sizeOf209
  v173 := Tryz.zeroValue209
  t212 := Tryz.underlying239
  a212 := Tryz.isAgg239
  z212 := Tryz.sizeOf239
  v212 := Tryz.zeroValue239
  t213 := Tryz.underlying240
  a213 := Tryz.isAgg240
  z213 := Tryz.sizeOf240
  t232 := Tryz.underlying260
  a232 := Tryz.isAgg260
  z232 := Tryz.sizeOf260
  v232 := Tryz.zeroValue260
  t233 := Tryz.underlying261
  a233 := Tryz.isAgg261
  z233 := Tryz.sizeOf261
  v233 := Tryz.zeroValue261
  g17 := by kernel_rfl
  g18 := by kernel_rfl
  g19 := by kernel_rfl
  i0 := by kernel_rfl
  i2 := by kernel_rfl
  i3 := by kernel_rfl
  i4 := by kernel_rfl
  i5 := by kernel_rfl
  i9 := by kernel_rfl
  i20 := by kernel_rfl
  i37 := by kernel_rfl
  i46 := by kernel_rfl
  i51 := by kernel_rfl
  i53 := by kernel_rfl
  i171 := by kernel_rfl
  i173 := by kernel_rfl
  i212 := by kernel_rfl
  i232 := by kernel_rfl
  i233 := by kernel_rfl
  m17 := by kernel_rfl
  m18 := by kernel_rfl
  m19 := by kernel_rfl }
open Go.RowKit Go.Sort Go.Lib in
/-- internal/strconv.Itoa: "Itoa is equivalent to FormatInt(int64(i), 10).": i's decimal numeral, for every int. (LAID: no walk: one application.) -/
theorem Tryz.internal_strconv_Itoa (n : Int) (h0 : -9223372036854775808 <= n) (h1 : n <= 9223372036854775807) (w : World) (aiT : Lib.TabIs Tryz.prog w "internal/strconv.uint64pow10" .u64 Lib.pow10Tab) :
    Calls Tryz.prog 96 #[.int .i64 n] w fun e w' => e = .returned (.string ⟨(Lib.itoa n).toArray⟩) /\ ∃ k os, w' = grow (w.drewN k) os := Any.internal_strconv_Itoa Tryz.aeR n h0 h1 w aiT
def Tryz.O8 : Go.Shelf.Ren := ⟨fun | 171 => 55 | 243 => 96 | 246 => 120 | 283 => 150 | 284 => 151 | 285 => 152 | 286 => 153 | 129 => 146 | 317 => 185 | 318 => 186 | 319 => 187 | 320 => 188 | 337 => 203 | 338 => 204 | n => n, fun | 3 => 3 | 9 => 9 | 2 => 2 | 4 => 4 | 171 => 207 | 0 => 0 | 53 => 202 | 37 => 26 | 5 => 5 | 173 => 209 | 212 => 239 | 51 => 83 | 20 => 20 | 213 => 240 | 46 => 144 | 232 => 260 | 233 => 261 | n => n, fun | 17 => 2 | 18 => 5 | 19 => 6 | n => n⟩
theorem Tryz.aeS : Go.Proofs.LaysM.n171 Tryz.prog Tryz.O8 := {
  mixed := by kernel_rfl
  f129 := Tryz.func146.trans (congrArg some (by kernel_rfl))
  f171 := Tryz.func55.trans (congrArg some (by kernel_rfl))
  f243 := Tryz.func96.trans (congrArg some (by kernel_rfl))
  f246 := Tryz.func120.trans (congrArg some (by kernel_rfl))
  f283 := Tryz.func150.trans (congrArg some (by kernel_rfl))
  f284 := Tryz.func151.trans (congrArg some (by kernel_rfl))
  f285 := Tryz.func152.trans (congrArg some (by kernel_rfl))
  f286 := Tryz.func153.trans (congrArg some (by kernel_rfl))
  f317 := Tryz.func185.trans (congrArg some (by kernel_rfl))
  f318 := Tryz.func186.trans (congrArg some (by kernel_rfl))
  f319 := Tryz.func187.trans (congrArg some (by kernel_rfl))
  f320 := Tryz.func188.trans (congrArg some (by kernel_rfl))
  f337 := Tryz.func203.trans (congrArg some (by kernel_rfl))
  f338 := Tryz.func204.trans (congrArg some (by kernel_rfl))
  t0 := Tryz.underlying0
  a0 := Tryz.isAgg0
  z0 := Tryz.sizeOf0
  v0 := Tryz.zeroValue0
  t2 := Tryz.underlying2
  a2 := Tryz.isAgg2
  z2 := Tryz.sizeOf2
  v2 := Tryz.zeroValue2
  t3 := Tryz.underlying3
  a3 := Tryz.isAgg3
  z3 := Tryz.sizeOf3
  v3 := Tryz.zeroValue3
  t4 := Tryz.underlying4
  a4 := Tryz.isAgg4
  z4 := Tryz.sizeOf4
  v4 := Tryz.zeroValue4
  t5 := Tryz.underlying5
  a5 := Tryz.isAgg5
  z5 := Tryz.sizeOf5
  v5 := Tryz.zeroValue5
  t9 := Tryz.underlying9
  a9 := Tryz.isAgg9
  z9 := Tryz.sizeOf9
  v9 := Tryz.zeroValue9
  t20 := Tryz.underlying20
  a20 := Tryz.isAgg20
  z20 := Tryz.sizeOf20
  v20 := Tryz.zeroValue20
  t37 := Tryz.underlying26
  a37 := Tryz.isAgg26
  z37 := Tryz.sizeOf26
  v37 := Tryz.zeroValue26
  t46 := Tryz.underlying144
  a46 := Tryz.isAgg144
  z46 := Tryz.sizeOf144
  v46 := Tryz.zeroValue144
  t51 := Tryz.underlying83
  a51 := Tryz.isAgg83
  z51 := Tryz.sizeOf83
  v51 := Tryz.zeroValue83
  t53 := Tryz.underlying202
  a53 := Tryz.isAgg202
  z53 := Tryz.sizeOf202
  v53 := Tryz.zeroValue202
  t171 := Tryz.underlying207
  a171 := Tryz.isAgg207
  z171 := Tryz.sizeOf207
  v171 := Tryz.zeroValue207
  t173 := Tryz.underlying209
  a173 := Tryz.isAgg209
  z173 := Tryz.sizeOf209
  v173 := Tryz.zeroValue209
  t212 := Tryz.underlying239
  a212 := Tryz.isAgg239
  z212 := Tryz.sizeOf239
  v212 := Tryz.zeroValue239
  t213 := Tryz.underlying240
  a213 := Tryz.isAgg240
  z213 := Tryz.sizeOf240
  t232 := Tryz.underlying260
  a232 := Tryz.isAgg260
  z232 := Tryz.sizeOf260
  v232 := Tryz.zeroValue260
  t233 := Tryz.underlying261
  a233 := Tryz.isAgg261
  z233 := Tryz.sizeOf261
  v233 := Tryz.zeroValue261
  g17 := by kernel_rfl
  g18 := by kernel_rfl
  g19 := by kernel_rfl
  i0 := by kernel_rfl
  i2 := by kernel_rfl
  i3 := by kernel_rfl
  i4 := by kernel_rfl
  i5 := by kernel_rfl
  i9 := by kernel_rfl
  i20 := by kernel_rfl
  i37 := by kernel_rfl
  i46 := by kernel_rfl
  i51 := by kernel_rfl
  i53 := by kernel_rfl
  i171 := by kernel_rfl
  i173 := by kernel_rfl
  i212 := by kernel_rfl
  i232 := by kernel_rfl
  i233 := by kernel_rfl
  m17 := by kernel_rfl
  m18 := by kernel_rfl
  m19 := by kernel_rfl }
open Go.RowKit Go.Sort Go.Lib in
/-- strconv.Itoa: "Itoa is equivalent to FormatInt(int64(i), 10).": i's DECIMAL NUMERAL ('Lib.itoa': a '-' where i is negative, then the digits), FOR EVERY int. The world behind the call: the world before it, new blocks behind the heap (the library's 'var a [24]byte'), draws. (LAID: no walk: one application.) -/
theorem Tryz.strconv_Itoa (n : Int) (h0 : -9223372036854775808 <= n) (h1 : n <= 9223372036854775807) (w : World) (aiT : Lib.TabIs Tryz.prog w "internal/strconv.uint64pow10" .u64 Lib.pow10Tab) :
    Calls Tryz.prog 55 #[.int .i64 n] w fun e w' => e = .returned (.string ⟨(Lib.itoa n).toArray⟩) /\ ∃ k os, w' = grow (w.drewN k) os := Any.strconv_Itoa Tryz.aeS n h0 h1 w aiT
def Tryz.O9 : Go.Shelf.Ren := ⟨fun | 172 => 101 | 244 => 124 | 245 => 125 | 247 => 163 | 279 => 164 | 280 => 165 | 281 => 166 | 282 => 167 | 287 => 194 | 316 => 195 | 171 => 55 | 205 => 196 | 321 => 206 | 322 => 207 | 243 => 96 | 246 => 120 | 283 => 150 | 284 => 151 | 285 => 152 | 286 => 153 | 129 => 146 | 317 => 185 | 318 => 186 | 319 => 187 | 320 => 188 | 337 => 203 | 338 => 204 | n => n, fun | 9 => 9 | 3 => 3 | 75 => 101 | 76 => 102 | 4 => 4 | 5 => 5 | 167 => 218 | 37 => 26 | 0 => 0 | 85 => 219 | 2 => 2 | 168 => 221 | 53 => 202 | 175 => 244 | 46 => 144 | 210 => 248 | 127 => 151 | 145 => 258 | 143 => 256 | 21 => 21 | 171 => 207 | 173 => 209 | 212 => 239 | 51 => 83 | 20 => 20 | 213 => 240 | 232 => 260 | 233 => 261 | 80 => 107 | n => n, fun | 15 => 3 | 16 => 4 | 17 => 2 | 18 => 5 | 19 => 6 | n => n⟩
theorem Tryz.G0 : Go.Proofs.LaysC.n172 Tryz.prog Tryz.O9 := {
  mixed := by kernel_rfl
  f129 := Tryz.func146.trans (congrArg some (by kernel_rfl))
  f171 := Tryz.func55.trans (congrArg some (by kernel_rfl))
  f172 := Tryz.func101.trans (congrArg some (by kernel_rfl))
  f205 := Tryz.func196.trans (congrArg some (by kernel_rfl))
  f243 := Tryz.func96.trans (congrArg some (by kernel_rfl))
  f244 := Tryz.func124.trans (congrArg some (by kernel_rfl))
  f245 := Tryz.func125.trans (congrArg some (by kernel_rfl))
  f246 := Tryz.func120.trans (congrArg some (by kernel_rfl))
  f247 := Tryz.func163.trans (congrArg some (by kernel_rfl))
  f279 := Tryz.func164.trans (congrArg some (by kernel_rfl))
  f280 := Tryz.func165.trans (congrArg some (by kernel_rfl))
  f281 := Tryz.func166.trans (congrArg some (by kernel_rfl))
  f282 := Tryz.func167.trans (congrArg some (by kernel_rfl))
  f283 := Tryz.func150.trans (congrArg some (by kernel_rfl))
  f284 := Tryz.func151.trans (congrArg some (by kernel_rfl))
  f285 := Tryz.func152.trans (congrArg some (by kernel_rfl))
  f286 := Tryz.func153.trans (congrArg some (by kernel_rfl))
  f287 := Tryz.func194.trans (congrArg some (by kernel_rfl))
  f316 := Tryz.func195.trans (congrArg some (by kernel_rfl))
  f317 := Tryz.func185.trans (congrArg some (by kernel_rfl))
  f318 := Tryz.func186.trans (congrArg some (by kernel_rfl))
  f319 := Tryz.func187.trans (congrArg some (by kernel_rfl))
  f320 := Tryz.func188.trans (congrArg some (by kernel_rfl))
  f321 := Tryz.func206.trans (congrArg some (by kernel_rfl))
  f322 := Tryz.func207.trans (congrArg some (by kernel_rfl))
  f337 := Tryz.func203.trans (congrArg some (by kernel_rfl))
  f338 := Tryz.func204.trans (congrArg some (by kernel_rfl))
  t0 := Tryz.underlying0
  a0 := Tryz.isAgg0
  z0 := Tryz.sizeOf0
  v0 := Tryz.zeroValue0
  t2 := Tryz.underlying2
  a2 := Tryz.isAgg2
  z2 := Tryz.sizeOf2
  v2 := Tryz.zeroValue2
  t3 := Tryz.underlying3
  a3 := Tryz.isAgg3
  z3 := Tryz.sizeOf3
  v3 := Tryz.zeroValue3
  t4 := Tryz.underlying4
  a4 := Tryz.isAgg4
  z4 := Tryz.sizeOf4
  v4 := Tryz.zeroValue4
  t5 := Tryz.underlying5
  a5 := Tryz.isAgg5
  z5 := Tryz.sizeOf5
  v5 := Tryz.zeroValue5
  t9 := Tryz.underlying9
  a9 := Tryz.isAgg9
  z9 := Tryz.sizeOf9
  v9 := Tryz.zeroValue9
  t20 := Tryz.underlying20
  a20 := Tryz.isAgg20
  z20 := Tryz.sizeOf20
  v20 := Tryz.zeroValue20
  t21 := Tryz.underlying21
  a21 := Tryz.isAgg21
  z21 := Tryz.sizeOf21
  v21 := Tryz.zeroValue21
  t37 := Tryz.underlying26
  a37 := Tryz.isAgg26
  z37 := Tryz.sizeOf26
  v37 := Tryz.zeroValue26
  t46 := Tryz.underlying144
  a46 := Tryz.isAgg144
  z46 := Tryz.sizeOf144
  v46 := Tryz.zeroValue144
  t51 := Tryz.underlying83
  a51 := Tryz.isAgg83
  z51 := Tryz.sizeOf83
  v51 := Tryz.zeroValue83
  t53 := Tryz.underlying202
  a53 := Tryz.isAgg202
  z53 := Tryz.sizeOf202
  v53 := Tryz.zeroValue202
  t75 := Tryz.underlying101
  a75 := Tryz.isAgg101
  z75 := Tryz.sizeOf101
  v75 := Tryz.zeroValue101
  t76 := Tryz.underlying102
  a76 := Tryz.isAgg102
  z76 := Tryz.sizeOf102
  v76 := Tryz.zeroValue102
  t85 := Tryz.underlying219
  a85 := Tryz.isAgg219
  z85 := Tryz.sizeOf219
  v85 := Tryz.zeroValue219
  t127 := Tryz.underlying151
  a127 := Tryz.isAgg151
  z127 := Tryz.sizeOf151
  v127 := Tryz.zeroValue151
  t143 := Tryz.underlying256
  a143 := Tryz.isAgg256
  z143 := Tryz.sizeOf256
  v143 := Tryz.zeroValue256
  t145 := Tryz.underlying258
  a145 := Tryz.isAgg258
  z145 := Tryz.sizeOf258
  v145 := Tryz.zeroValue258
  t167 := Tryz.underlying218
  a167 := Tryz.isAgg218
  z167 := Tryz.sizeOf218
  v167 := Tryz.zeroValue218
  t168 := Tryz.underlying221
  a168 := Tryz.isAgg221
  z168 := Tryz.sizeOf221
  v168 := Tryz.zeroValue221
  t171 := Tryz.underlying207
  a171 := Tryz.isAgg207
  z171 := Tryz.sizeOf207
  v171 := Tryz.zeroValue207
  t173 := Tryz.underlying209
  a173 := Tryz.isAgg209
  z173 := Tryz.sizeOf209
  v173 := Tryz.zeroValue209
  t175 := Tryz.underlying244
  a175 := Tryz.isAgg244
  z175 := Tryz.sizeOf244
  v175 := Tryz.zeroValue244
  t210 := Tryz.underlying248
  a210 := Tryz.isAgg248
  z210 := Tryz.sizeOf248
  v210 := Tryz.zeroValue248
  t212 := Tryz.underlying239
  a212 := Tryz.isAgg239
  z212 := Tryz.sizeOf239
  v212 := Tryz.zeroValue239
  t213 := Tryz.underlying240
  a213 := Tryz.isAgg240
  z213 := Tryz.sizeOf240
  t232 := Tryz.underlying260
  a232 := Tryz.isAgg260
  z232 := Tryz.sizeOf260
  v232 := Tryz.zeroValue260
  t233 := Tryz.underlying261
  a233 := Tryz.isAgg261
  z233 := Tryz.sizeOf261
  v233 := Tryz.zeroValue261
  g15 := by kernel_rfl
  g16 := by kernel_rfl
  g17 := by kernel_rfl
  g18 := by kernel_rfl
  g19 := by kernel_rfl
  t80 := Tryz.underlying107
  a80 := Tryz.isAgg107
  z80 := Tryz.sizeOf107
  v80 := Tryz.zeroValue107
  i0 := by kernel_rfl
  i2 := by kernel_rfl
  i3 := by kernel_rfl
  i4 := by kernel_rfl
  i5 := by kernel_rfl
  i9 := by kernel_rfl
  i20 := by kernel_rfl
  i21 := by kernel_rfl
  i37 := by kernel_rfl
  i46 := by kernel_rfl
  i51 := by kernel_rfl
  i53 := by kernel_rfl
  i75 := by kernel_rfl
  i76 := by kernel_rfl
  i80 := by kernel_rfl
  i85 := by kernel_rfl
  i127 := by kernel_rfl
  i143 := by kernel_rfl
  i145 := by kernel_rfl
  i167 := by kernel_rfl
  i168 := by kernel_rfl
  i171 := by kernel_rfl
  i173 := by kernel_rfl
  i175 := by kernel_rfl
  i210 := by kernel_rfl
  i212 := by kernel_rfl
  i232 := by kernel_rfl
  i233 := by kernel_rfl
  m15 := by kernel_rfl
  m16 := by kernel_rfl
  m17 := by kernel_rfl
  m18 := by kernel_rfl
  m19 := by kernel_rfl
  c0 := by kernel_rfl
  c2 := by kernel_rfl
  c3 := by kernel_rfl
  c4 := by kernel_rfl
  c5 := by kernel_rfl
  c9 := by kernel_rfl
  c20 := by kernel_rfl
  c21 := by kernel_rfl
  c37 := by kernel_rfl
  c46 := by kernel_rfl
  c51 := by kernel_rfl
  c53 := by kernel_rfl
  c75 := by kernel_rfl
  c76 := by kernel_rfl
  c80 := by kernel_rfl
  c85 := by kernel_rfl
  c127 := by kernel_rfl
  c143 := by kernel_rfl
  c145 := by kernel_rfl
  c167 := by kernel_rfl
  c168 := by kernel_rfl
  c171 := by kernel_rfl
  c173 := by kernel_rfl
  c175 := by kernel_rfl
  c210 := by kernel_rfl
  c212 := by kernel_rfl
  c213 := by kernel_rfl
  c232 := by kernel_rfl
  c233 := by kernel_rfl }
open Go.RowKit in
/-- strconv.Atoi, AT EVERY STRING THAT SPELLS AN int ('Lib.atoiAll .. = .ok v'; of whatever length: leading zeros count): v, AND NO ERROR. The world: asl it was, or with the one new row that '[]byte(..)' lays. (LAID: no walk: one application.) -/
theorem Tryz.strconv_Atoi_ok (s : ByteArray) (asO : s.size <= 9223372036854775806) (v : Int) (h : Lib.atoiAll s.data.toList = .ok v) (w : World) :
    Calls Tryz.prog 101 #[.string s] w fun e w' => e = .returned (.tuple #[.int .i64 v, .nilIface]) /\ (w' = w \/ ∃ t, w' = Lib.bytesWorld w 5 t) := Any.strconv_Atoi_ok Tryz.G0 s asO v h w
open Go.RowKit in
theorem Tryz.strconv_Atoi_syntax_var (s : ByteArray) (aiU : s.size <= 281474976710656) (h : Lib.atoiAll s.data.toList = Lib.NumEnd.syntax) (tp : TypeId) (p : Value) (w : World) (N1 : w.var? Tryz.prog "strconv.ErrSyntax" = some #[.iface tp p]) :
    Calls Tryz.prog 101 #[.string s] w fun e w' => ∃ N, e = .returned (.tuple #[.int .i64 0, .iface 221 (.pointer (some ⟨N, 0, none⟩))]) /\ w.heap.size <= N /\ w'.heap[N]? = some (.cells #[.string ⟨#[65, 116, 111, 105]⟩, .string s, .iface tp p] 248 (0, 0)) /\ Below w.heap.size w w' := Any.strconv_Atoi_syntax_var Tryz.G0 s aiU h tp p w N1
open Go.RowKit in
theorem Tryz.strconv_Atoi_range_var (s : ByteArray) (aiU : s.size <= 281474976710656) (h : Lib.atoiAll s.data.toList = .range) (tp : TypeId) (p : Value) (w : World) (N1 : w.var? Tryz.prog "strconv.ErrRange" = some #[.iface tp p]) :
    Calls Tryz.prog 101 #[.string s] w fun e w' => ∃ N, e = .returned (.tuple #[.int .i64 (Lib.atoiSat s.data.toList), .iface 221 (.pointer (some ⟨N, 0, none⟩))]) /\ w.heap.size <= N /\ w'.heap[N]? = some (.cells #[.string ⟨#[65, 116, 111, 105]⟩, .string s, .iface tp p] 248 (0, 0)) /\ Below w.heap.size w w' := Any.strconv_Atoi_range_var Tryz.G0 s aiU h tp p w N1
def Tryz.SO : Go.Shelf.Ren := ⟨fun | 101 => 102 | 208 => 126 | 206 => 168 | n => n, fun | 9 => 9 | 4 => 4 | 3 => 3 | n => n, fun | n => n⟩
theorem Tryz.aiV : Go.Proofs.Lays.n101 Tryz.prog Tryz.SO := {
  mixed := by kernel_rfl
  f101 := Tryz.func102.trans (congrArg some (by kernel_rfl))
  f206 := Tryz.func168.trans (congrArg some (by kernel_rfl))
  f208 := Tryz.func126.trans (congrArg some (by kernel_rfl))
  t3 := Tryz.underlying3
  a3 := Tryz.isAgg3
  z3 := Tryz.sizeOf3
  v3 := Tryz.zeroValue3
  t4 := Tryz.underlying4
  a4 := Tryz.isAgg4
  z4 := Tryz.sizeOf4
  v4 := Tryz.zeroValue4
  t9 := Tryz.underlying9
  a9 := Tryz.isAgg9
  z9 := Tryz.sizeOf9
  v9 := Tryz.zeroValue9 }
open Go.RowKit Go.Lib in
/-- strings.TrimPrefix: "TrimPrefix returns s without the provided leading prefix string. If s doesn't start with prefix, s is returned unchanged.": IT RETURNS 'Lib.trimPrefix s prefix'; the world is asl it was. (LAID: no walk: one application.) -/
theorem Tryz.strings_TrimPrefix (s p : ByteArray) (w : World) :
    Calls Tryz.prog 102 #[.string s, .string p] w fun e w' => e = .returned (.string ⟨(Lib.trimPrefix s.data.toList p.data.toList).toArray⟩) /\ w' = w := Any.strings_TrimPrefix Tryz.aiV s p w
end Go.Proofs
namespace Go.Proofs
open Go.Fs
open Go.Shelf
open Go.RowKit (Below)
theorem aiW : (Tryz.prog.funcs.toList.all fun fn => match fn.body with | some c => codeOk c && !(fn.name == "runtime.NumGoroutine") | none => true) = true := by kernel_rfl
theorem aiX : Tryz.prog.follows .mixedOrders = true := by kernel_rfl
theorem amB : k9 Tryz.prog where
  mixed := aiX
  name := fun f fn hf hb => by
    have := List.all_eq_true.1 aiW fn (by rw [Array.mem_toList_iff]; exact Array.mem_of_getElem? hf)
    cases hx : fn.body with
    | none => rw [hx] at hb; cases hb
    | some c => rw [hx] at this; simpa using (aT this).2
  code := fun f fn c hf hb => by
    have := List.all_eq_true.1 aiW fn (by rw [Array.mem_toList_iff]; exact Array.mem_of_getElem? hf); rw [hb] at this; exact (aT this).1
theorem alW : Fs.Enters Tryz.prog 96 := ⟨_, Tryz.func96, rfl, by kernel_rfl⟩
theorem XB : Fs.Enters Tryz.prog 95 := ⟨_, Tryz.func95, rfl, by kernel_rfl⟩
theorem aeT : Fs.Enters Tryz.prog 6 := ⟨_, Tryz.func6, rfl, by kernel_rfl⟩
def aiY : Go.Shelf.Ren := ⟨fun | 240 => 95 | 276 => 119 | n => n, fun | 0 => 0 | 4 => 4 | 9 => 9 | 20 => 20 | 70 => 97 | 72 => 99 | 164 => 180 | 37 => 26 | n => n, fun | n => n⟩
theorem IL : Go.Proofs.Lays.n240 Tryz.prog aiY := {
  mixed := by kernel_rfl
  f240 := Tryz.func95.trans (congrArg some (by kernel_rfl))
  f276 := Tryz.func119.trans (congrArg some (by kernel_rfl))
  t0 := Tryz.underlying0
  a0 := Tryz.isAgg0
  z0 := Tryz.sizeOf0
  v0 := Tryz.zeroValue0
  t4 := Tryz.underlying4
  a4 := Tryz.isAgg4
  z4 := Tryz.sizeOf4
  v4 := Tryz.zeroValue4
  t9 := Tryz.underlying9
  a9 := Tryz.isAgg9
  z9 := Tryz.sizeOf9
  v9 := Tryz.zeroValue9
  t20 := Tryz.underlying20
  a20 := Tryz.isAgg20
  z20 := Tryz.sizeOf20
  v20 := Tryz.zeroValue20
  t70 := Tryz.underlying97
  a70 := Tryz.isAgg97
  z70 := Tryz.sizeOf97
  v70 := Tryz.zeroValue97
  t72 := Tryz.underlying99
  a72 := Tryz.isAgg99
  z72 := Tryz.sizeOf99
  v72 := Tryz.zeroValue99
  t164 := Tryz.underlying180
  a164 := Tryz.isAgg180
  z164 := Tryz.sizeOf180
  v164 := Tryz.zeroValue180 }
theorem SP : Builder.X72 Tryz.prog aiY := { sizeBuilder := by kernel_rfl, liesBuilder := by kernel_rfl }
/-- No package variable is read. -/
def tzG : List (Nat × TypeId × List Value) := []
abbrev OB := aiQ 96 96 95 99
theorem aiZ {B : Nat} {w0 : World} (hz : w0.drawn = 0) (hB : w0.heap.size <= B) (ht : ∀ w, Below B w0 w -> Lib.TabIs Tryz.prog w "internal/strconv.uint64pow10" .u64 Lib.pow10Tab) : cB Tryz.prog B w0 (LG 96 96) :=
  XA hz alW (fun n w hw h0 h1 => (Tryz.internal_strconv_Itoa n h0 h1 w (ht w hw)).mono fun e w' ⟨he, k, os, AJ⟩ => ⟨he, by rw [AJ]; exact Lib.below_grow _ _ (Nat.le_refl _) _ _⟩)
theorem alX {B : Nat} {w0 : World} (hz : w0.drawn = 0) (hB : w0.heap.size <= B) (ht : ∀ w, Below B w0 w -> Lib.TabIs Tryz.prog w "internal/strconv.uint64pow10" .u64 Lib.pow10Tab) : cB Tryz.prog B w0 OB :=
  X7 hz (aiZ hz hB ht) XB (fun b w h0 h1 h2 => Any.Builder_copyCheck_fresh IL SP b w h0 h1 h2) (fun b w h0 => Any.Builder_copyCheck_used IL SP b w h0)
end Go.Proofs
namespace Go.Proofs
open Go.Fs
noncomputable def SQ : Code := match Tryz.f6.body with | some c => c | none => .skip
noncomputable def Q3 : Tr := (.node (.bool false) (.node (.bool false) .leaf .leaf) .leaf)
noncomputable def asP : Tr := (.node (.int .i64 0) (.node (.int .i64 0) .leaf .leaf) .leaf)
noncomputable def amZ : Tr := (.node (.int .i64 0) (.node (.slice none 0 0) .leaf .leaf) .leaf)
noncomputable def asQ : Tr := (.node (.agg #[.int .i64 0, .int .i64 0, .int .i64 1]) .leaf .leaf)
noncomputable def an0 : Tr := (.node (.tuple #[.slice (some ⟨62, 0, none⟩) 7 0, .int .i64 0]) .leaf .leaf)
noncomputable def an1 : Tr := (.node (.tuple #[.slice (some ⟨291, 0, none⟩) 1 0, .int .i64 0]) .leaf .leaf)
noncomputable def an2 : Tr := (.node (.tuple #[.slice (some ⟨318, 0, none⟩) 3 0, .int .i64 0]) .leaf .leaf)
noncomputable def an3 : Tr := (.node (.tuple #[.slice (some ⟨268, 0, none⟩) 3 0, .int .i64 0]) .leaf .leaf)
noncomputable def an4 : Tr := (.node (.slice (some ⟨1, 0, none⟩) 2 0) (.node (.bool false) .leaf .leaf) .leaf)
noncomputable def an5 : Tr := (.node (.slice (some ⟨2, 0, none⟩) 1 0) (.node (.bool false) .leaf .leaf) .leaf)
noncomputable def aj0 : Tr := (.node (.int .i64 0) (.node (.slice (some ⟨55, 0, none⟩) 2 0) .leaf .leaf) .leaf)
noncomputable def ap3 : Tr := (.node (.slice (some ⟨54, 0, none⟩) 2 0) (.node (.int .i64 7) .leaf .leaf) .leaf)
noncomputable def SR : Tr := (.node (.slice (some ⟨55, 0, none⟩) 2 0) (.node (.bool false) .leaf .leaf) .leaf)
noncomputable def ap4 : Tr := (.node (.slice (some ⟨51, 0, none⟩) 2 0) (.node (.bool false) .leaf .leaf) .leaf)
noncomputable def ap5 : Tr := (.node (.bool true) (.node (.slice (some ⟨149, 0, none⟩) 7 0) .leaf .leaf) .leaf)
noncomputable def aj1 : Tr := (.node (.int .i64 0) (.node (.agg #[.int .i64 5, .int .i64 6]) .leaf .leaf) .leaf)
noncomputable def ap6 : Tr := (.node (.agg #[.int .i64 2, .int .i64 4]) (.node (.bool false) .leaf .leaf) .leaf)
noncomputable def ap7 : Tr := (.node (.slice (some ⟨114, 0, none⟩) 1 0) (.node (.bool false) .leaf .leaf) .leaf)
noncomputable def ap8 : Tr := (.node (.int .i64 0) (.node (.slice (some ⟨151, 0, none⟩) 1 0) .leaf .leaf) .leaf)
noncomputable def ap9 : Tr := (.node (.int .i64 0) (.node (.slice (some ⟨154, 0, none⟩) 3 0) .leaf .leaf) .leaf)
noncomputable def apA : Tr := (.node (.agg #[.int .i64 6, .int .i64 7]) (.node (.bool false) .leaf .leaf) .leaf)
noncomputable def apB : Tr := (.node (.int .i64 0) asQ .leaf)
noncomputable def apC : Tr := (.node (.slice (some ⟨55, 0, none⟩) 2 0) (.node (.pointer (some ⟨144, 5, none⟩)) .leaf .leaf) .leaf)
noncomputable def aj2 : Tr := (.node (.slice (some ⟨62, 0, none⟩) 7 0) (.node (.pointer (some ⟨146, 3, none⟩)) .leaf .leaf) .leaf)
noncomputable def apD : Tr := (.node (.agg #[.int .i64 0, .int .i64 2]) (.node (.pointer (some ⟨146, 2, none⟩)) .leaf .leaf) .leaf)
noncomputable def apE : Tr := (.node (.slice (some ⟨53, 0, none⟩) 2 0) (.node (.slice (some ⟨118, 0, none⟩) 7 0) .leaf .leaf) .leaf)
noncomputable def apF : Tr := (.node (.slice (some ⟨118, 0, none⟩) 7 0) (.node (.slice (some ⟨151, 0, none⟩) 1 0) .leaf .leaf) .leaf)
noncomputable def apG : Tr := (.node (.agg #[.int .i64 7, .int .i64 9]) (.node (.slice (some ⟨144, 0, none⟩) 7 0) .leaf .leaf) .leaf)
noncomputable def aj3 : Tr := (.node (.tuple #[.slice (some ⟨62, 0, none⟩) 7 0, .int .i64 0]) (.node (.bool false) .leaf .leaf) .leaf)
noncomputable def apH : Tr := (.node (.agg #[.string ⟨#[97]⟩, .int .i64 0, .slice (some ⟨152, 0, none⟩) 3 0, .slice none 0 0]) .leaf .leaf)
noncomputable def aj4 : Tr := (.node (.tuple #[.slice (some ⟨62, 0, none⟩) 7 0, .int .i64 0]) (.node (.float .f32 1069547520) .leaf .leaf) .leaf)
noncomputable def aj5 : Tr := (.node (.agg #[.string ⟨#[114, 97, 110, 103, 101]⟩, .int .i64 0, .int .i64 48]) (.node (.bool false) .leaf .leaf) .leaf)
noncomputable def apI : Tr := (.node (.agg #[.string ⟨#[98]⟩, .int .i64 0, .slice (some ⟨153, 0, none⟩) 3 0, .slice (some ⟨151, 0, none⟩) 1 0]) .leaf .leaf)
noncomputable def apJ : Tr := (.node (.agg #[.string ⟨#[97]⟩, .int .i64 0, .slice (some ⟨233, 0, none⟩) 3 0, .slice (some ⟨239, 0, none⟩) 1 0]) .leaf .leaf)
noncomputable def aj6 : Tr := (.node (.tuple #[.slice (some ⟨118, 0, none⟩) 7 0, .int .i64 0]) (.node (.slice (some ⟨150, 0, none⟩) 1 0) .leaf .leaf) .leaf)
noncomputable def apK : Tr := (.node (.tuple #[.slice (some ⟨118, 0, none⟩) 7 0, .int .i64 0]) (.node (.agg #[.int .i64 2, .int .i64 3]) .leaf .leaf) .leaf)
noncomputable def apL : Tr := (.node (.agg #[.string ⟨#[99]⟩, .int .i64 0, .slice (some ⟨154, 0, none⟩) 3 0, .slice (some ⟨151, 0, none⟩) 1 0]) .leaf .leaf)
noncomputable def apM : Tr := (.node (.agg #[.string ⟨#[106, 117, 109, 112]⟩, .int .i64 16, .int .i64 0]) (.node (.pointer (some ⟨146, 2, none⟩)) .leaf .leaf) .leaf)
noncomputable def apN : Tr := (.node (.agg #[.string ⟨#[115, 116, 117, 99, 107]⟩, .int .i64 2, .int .i64 0]) (.node (.slice (some ⟨144, 0, none⟩) 7 0) .leaf .leaf) .leaf)
noncomputable def apO : Tr := (.node (.int .i64 0) apJ .leaf)
noncomputable def apP : Tr := (.node (.int .i64 0) apL .leaf)
noncomputable def aj7 : Tr := (.node (.tuple #[.agg #[.string ⟨#[104, 111, 111, 107]⟩, .int .i64 10, .slice (some ⟨95, 0, none⟩) 7 0, .slice (some ⟨109, 0, none⟩) 2 0], .int .i64 0]) .leaf .leaf)
noncomputable def aj8 : Tr := (.node (.agg #[.string ⟨#[104, 111, 111, 107]⟩, .int .i64 10, .slice (some ⟨75, 0, none⟩) 7 0, .slice (some ⟨76, 0, none⟩) 1 0]) (.node (.bool false) .leaf .leaf) .leaf)
noncomputable def aj9 : Tr := (.node (.agg #[.string ⟨#[104, 111, 111, 107]⟩, .int .i64 10, .slice (some ⟨57, 0, none⟩) 7 0, .slice (some ⟨58, 0, none⟩) 1 0]) (.node (.bool false) .leaf .leaf) .leaf)
noncomputable def ajA : Tr := (.node (.agg #[.string ⟨#[104, 111, 111, 107]⟩, .int .i64 10, .slice (some ⟨112, 0, none⟩) 7 0, .slice (some ⟨113, 0, none⟩) 1 0]) (.node (.bool true) .leaf .leaf) .leaf)
noncomputable def apQ : Tr := (.node (.slice (some ⟨141, 0, none⟩) 1 0) apI .leaf)
noncomputable def apR : Tr := (.node (.agg #[.string ⟨#[104, 111, 111, 107]⟩, .int .i64 10, .slice (some ⟨144, 0, none⟩) 7 0, .slice none 0 0]) (.node (.slice (some ⟨151, 0, none⟩) 1 0) .leaf .leaf) .leaf)
noncomputable def ajB : Tr := (.node (.int .i64 0) apC asP)
noncomputable def ajC : Tr := (.node (.int .i64 0) ap3 ap8)
noncomputable def ajD : Tr := (.node (.agg #[.string ⟨#[104, 111, 111, 107]⟩, .int .i64 10, .slice (some ⟨95, 0, none⟩) 7 0, .slice (some ⟨109, 0, none⟩) 2 0]) (.node (.slice (some ⟨141, 0, none⟩) 1 0) .leaf .leaf) .leaf)
noncomputable def ajE : Tr := (.node (.tuple #[.agg #[.string ⟨#[104, 111, 111, 107]⟩, .int .i64 10, .slice (some ⟨95, 0, none⟩) 7 0, .slice (some ⟨109, 0, none⟩) 2 0], .int .i64 0]) (.node (.bool false) .leaf .leaf) .leaf)
noncomputable def ajF : Tr := (.node (.tuple #[.agg #[.string ⟨#[104, 111, 111, 107]⟩, .int .i64 10, .slice (some ⟨95, 0, none⟩) 7 0, .slice (some ⟨109, 0, none⟩) 2 0], .int .i64 0]) (.node (.int .i64 0) .leaf .leaf) .leaf)
noncomputable def apS : Tr := (.node (.tuple #[.agg #[.string ⟨#[97]⟩, .int .i64 0, .slice (some ⟨233, 0, none⟩) 3 0, .slice (some ⟨239, 0, none⟩) 1 0], .agg #[.int .i64 0, .int .i64 0, .int .i64 1], .int .i64 0]) .leaf .leaf)
noncomputable def ajG : Tr := (.node (.slice (some ⟨1, 0, none⟩) 2 0) ap6 ap7)
noncomputable def ajH : Tr := (.node (.int .i64 0) apS .leaf)
noncomputable def ajI : Tr := (.node (.slice (some ⟨34, 0, none⟩) 2 0) apG ap9)
noncomputable def apT : Tr := (.node (.tuple #[.agg #[.string ⟨#[104, 111, 111, 107]⟩, .int .i64 10, .slice (some ⟨144, 0, none⟩) 7 0, .slice none 0 0], .slice (some ⟨141, 0, none⟩) 1 0, .int .i64 0]) (.node (.slice (some ⟨152, 0, none⟩) 3 0) .leaf .leaf) .leaf)
noncomputable def apU : Tr := (.node (.tuple #[.agg #[.string ⟨#[104, 111, 111, 107]⟩, .int .i64 10, .slice (some ⟨144, 0, none⟩) 7 0, .slice none 0 0], .slice (some ⟨141, 0, none⟩) 1 0, .int .i64 0]) (.node (.slice (some ⟨153, 0, none⟩) 3 0) .leaf .leaf) .leaf)
noncomputable def apV : Tr := (.node (.agg #[.string ⟨#[104, 111, 111, 107]⟩, .int .i64 10, .slice (some ⟨128, 0, none⟩) 7 0, .slice (some ⟨129, 0, none⟩) 1 0]) apH .leaf)
noncomputable def ajJ : Tr := (.node (.slice (some ⟨2, 0, none⟩) 1 0) apA apK)
noncomputable def ajK : Tr := (.node (.tuple #[.slice (some ⟨17, 0, none⟩) 1 0, .int .i64 0]) apE apF)
noncomputable def ajL : Tr := (.node (.slice (some ⟨51, 0, none⟩) 2 0) apN apB)
noncomputable def ajM : Tr := (.node (.tuple #[.slice (some ⟨51, 0, none⟩) 2 0, .int .i64 0]) (.node (.bool true) (.node (.bool false) .leaf .leaf) .leaf) apP)
noncomputable def ajN : Tr := (.node (.slice (some ⟨2, 0, none⟩) 1 0) ap4 apR)
noncomputable def apW : Tr := (.node (.agg #[.string ⟨#[97]⟩, .int .i64 0, .slice (some ⟨152, 0, none⟩) 3 0, .slice none 0 0, .string ⟨#[98]⟩, .int .i64 0, .slice (some ⟨153, 0, none⟩) 3 0, .slice (some ⟨151, 0, none⟩) 1 0, .string ⟨#[99]⟩, .int .i64 0, .slice (some ⟨154, 0, none⟩) 3 0, .slice (some ⟨151, 0, none⟩) 1 0]) .leaf .leaf)
noncomputable def ajO : Tr := (.node (.int .i64 0) (.node (.bool false) (.node (.bool true) .leaf .leaf) .leaf) apT)
noncomputable def ajP : Tr := (.node (.slice (some ⟨2, 0, none⟩) 1 0) Q3 ajH)
noncomputable def apX : Tr := (.node (.int .i64 0) apW .leaf)
noncomputable def ajQ : Tr := (.node (.slice (some ⟨1, 0, none⟩) 2 0) Q3 apU)
noncomputable def ajR : Tr := (.node (.tuple #[.slice (some ⟨34, 0, none⟩) 2 0, .int .i64 0]) apD apQ)
noncomputable def ajS : Tr := (.node (.slice (some ⟨17, 0, none⟩) 1 0) ap5 ajH)
noncomputable def ajT : Tr := (.node (.tuple #[.slice (some ⟨51, 0, none⟩) 2 0, .int .i64 0]) apM apO)
noncomputable def ajU : Tr := (.node (.tuple #[.slice (some ⟨34, 0, none⟩) 2 0, .int .i64 0]) Q3 apV)
noncomputable def ajV : Tr := (.node (.slice (some ⟨1, 0, none⟩) 2 0) Q3 apX)
noncomputable def an6 : List Nat := [109, 95, 110, 62]
noncomputable def asR : Tr := (.node (.bool false) (.node (.slice (some ⟨1, 0, none⟩) 2 0) (.node (.slice (some ⟨17, 0, none⟩) 1 0) (.node (.slice (some ⟨51, 0, none⟩) 2 0) (.node (.tuple #[]) (.node (.tuple #[]) (.node (.int .i64 0) .leaf .leaf) an0) (.node (.int .i64 0) (.node (.bool false) .leaf .leaf) .leaf)) (.node (.tuple #[]) (.node (.slice (some ⟨1, 0, none⟩) 2 0) (.node (.bool false) .leaf .leaf) (.node (.int .i64 0) .leaf .leaf)) an4)) (.node (.int .i64 0) (.node (.tuple #[]) (.node (.tuple #[]) (.node (.slice (some ⟨17, 0, none⟩) 1 0) .leaf .leaf) (.node (.agg #[.string ⟨#[104, 111, 111, 107]⟩, .int .i64 10, .slice (some ⟨75, 0, none⟩) 7 0, .slice (some ⟨76, 0, none⟩) 1 0]) .leaf .leaf)) (.node (.tuple #[.slice (some ⟨34, 0, none⟩) 2 0, .int .i64 0]) (.node (.agg #[.int .i64 0, .int .i64 2]) .leaf .leaf) .leaf)) (.node (.tuple #[]) (.node (.slice (some ⟨1, 0, none⟩) 2 0) (.node (.agg #[.int .i64 2, .int .i64 4]) .leaf .leaf) .leaf) aj0))) (.node (.slice (some ⟨34, 0, none⟩) 2 0) (.node (.slice (some ⟨55, 0, none⟩) 2 0) (.node (.tuple #[]) (.node (.tuple #[]) (.node (.bool false) .leaf .leaf) (.node (.int .i64 0) .leaf .leaf)) an4) (.node (.tuple #[]) an5 (.node (.tuple #[.slice (some ⟨51, 0, none⟩) 2 0, .int .i64 0]) (.node (.agg #[.string ⟨#[106, 117, 109, 112]⟩, .int .i64 16, .int .i64 0]) .leaf .leaf) .leaf))) (.node (.int .i64 0) (.node (.tuple #[]) (.node (.agg #[.int .i64 0, .int .i64 4]) (.node (.slice (some ⟨52, 0, none⟩) 1 0) .leaf .leaf) aj7) (.node (.int .i64 0) (.node (.slice (some ⟨54, 0, none⟩) 2 0) .leaf .leaf) .leaf)) (.node (.tuple #[]) (.node (.tuple #[.slice (some ⟨17, 0, none⟩) 1 0, .int .i64 0]) (.node (.slice (some ⟨53, 0, none⟩) 2 0) .leaf .leaf) .leaf) (.node (.int .i64 0) (.node (.agg #[.string ⟨#[104, 111, 111, 107]⟩, .int .i64 10, .slice (some ⟨57, 0, none⟩) 7 0, .slice (some ⟨58, 0, none⟩) 1 0]) .leaf .leaf) .leaf))))) (.node (.slice (some ⟨2, 0, none⟩) 1 0) (.node (.int .i64 0) (.node (.int .i64 0) (.node (.tuple #[]) (.node (.tuple #[]) (.node (.int .i64 0) .leaf .leaf) (.node (.slice (some ⟨62, 0, none⟩) 7 0) .leaf .leaf)) (.node (.tuple #[.slice (some ⟨34, 0, none⟩) 2 0, .int .i64 0]) (.node (.bool false) .leaf .leaf) .leaf)) (.node (.tuple #[]) (.node (.agg #[.int .i64 2, .int .i64 7]) (.node (.bool false) .leaf .leaf) .leaf) an5)) (.node (.pointer (some ⟨110, 0, none⟩)) (.node (.tuple #[]) (.node (.tuple #[]) (.node (.agg #[.int .i64 0, .int .i64 9]) .leaf .leaf) (.node (.slice (some ⟨55, 0, none⟩) 2 0) .leaf .leaf)) (.node (.slice (some ⟨34, 0, none⟩) 2 0) (.node (.agg #[.int .i64 7, .int .i64 9]) .leaf .leaf) .leaf)) (.node (.tuple #[]) (.node (.slice (some ⟨2, 0, none⟩) 1 0) (.node (.agg #[.int .i64 6, .int .i64 7]) .leaf .leaf) .leaf) (.node (.int .i64 0) an0 .leaf)))) (.node (.int .i64 0) (.node (.slice (some ⟨62, 0, none⟩) 7 0) (.node (.tuple #[]) (.node (.tuple #[]) (.node (.bool false) .leaf .leaf) aj7) (.node (.slice (some ⟨2, 0, none⟩) 1 0) (.node (.slice (some ⟨51, 0, none⟩) 2 0) .leaf .leaf) .leaf)) (.node (.tuple #[]) (.node (.tuple #[.slice (some ⟨17, 0, none⟩) 1 0, .int .i64 0]) (.node (.slice (some ⟨34, 0, none⟩) 2 0) .leaf .leaf) .leaf) (.node (.slice (some ⟨51, 0, none⟩) 2 0) (.node (.agg #[.string ⟨#[115, 116, 117, 99, 107]⟩, .int .i64 2, .int .i64 0]) .leaf .leaf) .leaf))) (.node (.tuple #[]) (.node (.tuple #[]) (.node (.agg #[.int .i64 6, .int .i64 9]) (.node (.bool true) .leaf .leaf) (.node (.agg #[.string ⟨#[104, 111, 111, 107]⟩, .int .i64 10, .slice (some ⟨95, 0, none⟩) 7 0, .slice (some ⟨109, 0, none⟩) 2 0]) .leaf .leaf)) (.node (.tuple #[.slice (some ⟨51, 0, none⟩) 2 0, .int .i64 0]) (.node (.bool true) .leaf .leaf) .leaf)) (.node (.tuple #[]) (.node (.slice (some ⟨17, 0, none⟩) 1 0) (.node (.bool true) .leaf .leaf) .leaf) aj0)))))
noncomputable def an7 : Fr := ⟨asR, 304, []⟩
noncomputable def alY : List (Nat × aU) := [(110, .row 32 [.string ⟨#[104, 111, 111, 107]⟩, .int .i64 10, .slice (some ⟨95, 0, none⟩) 7 0, .slice (some ⟨109, 0, none⟩) 2 0] true false), (109, .row 53 [.int .i64 2, .int .i64 4, .int .i64 5, .int .i64 6] true true), (95, .row 68 [.float .f32 1065353216, .float .f32 1065353216, .float .f32 0, .float .f32 0, .float .f32 1069547520, .float .f32 0, .float .f32 1073741824] true false), (62, .row 3 [.int .i64 0, .int .i64 0, .int .i64 2, .int .i64 1, .int .i64 0, .int .i64 0, .int .i64 0] true false)]
noncomputable def asS : List (Nat × aU) := alY
noncomputable def an8 : Heap := ⟨111, 1, asS⟩
noncomputable def ajW : List Nat := [241, 239, 233, 240, 151]
noncomputable def apY : Tr := (.node (.bool false) (.node (.slice (some ⟨1, 0, none⟩) 2 0) (.node (.slice (some ⟨17, 0, none⟩) 1 0) (.node (.slice (some ⟨51, 0, none⟩) 2 0) (.node (.int .i64 0) (.node (.tuple #[]) (.node (.int .i64 0) (.node (.slice (some ⟨147, 0, none⟩) 7 0) .leaf .leaf) .leaf) aj3) ajO) (.node (.tuple #[]) (.node (.slice (some ⟨1, 0, none⟩) 2 0) (.node (.bool false) (.node (.agg #[.int .i64 5, .int .i64 6]) .leaf .leaf) .leaf) aj1) ajV)) (.node (.int .i64 0) (.node (.slice (some ⟨151, 0, none⟩) 1 0) (.node (.tuple #[]) (.node (.slice (some ⟨17, 0, none⟩) 1 0) (.node (.bool false) .leaf .leaf) .leaf) aj8) ajR) (.node (.tuple #[]) ajG ajB))) (.node (.slice (some ⟨34, 0, none⟩) 2 0) (.node (.slice (some ⟨55, 0, none⟩) 2 0) (.node (.slice (some ⟨141, 0, none⟩) 1 0) (.node (.tuple #[]) Q3 amZ) ajQ) (.node (.tuple #[]) (.node (.slice (some ⟨2, 0, none⟩) 1 0) (.node (.bool false) (.node (.bool true) .leaf .leaf) .leaf) ajA) ajT)) (.node (.int .i64 0) (.node (.pointer (some ⟨241, 0, none⟩)) (.node (.agg #[.int .i64 0, .int .i64 4]) (.node (.slice (some ⟨52, 0, none⟩) 1 0) (.node (.slice (some ⟨109, 0, none⟩) 2 0) .leaf .leaf) .leaf) ajE) ajC) (.node (.tuple #[]) ajK (.node (.int .i64 0) aj9 (.node (.bool false) .leaf .leaf)))))) (.node (.slice (some ⟨2, 0, none⟩) 1 0) (.node (.int .i64 0) (.node (.int .i64 0) (.node (.pointer (some ⟨146, 0, none⟩)) (.node (.tuple #[]) (.node (.int .i64 0) (.node (.bool true) .leaf .leaf) .leaf) aj2) ajU) (.node (.tuple #[]) (.node (.agg #[.int .i64 2, .int .i64 7]) (.node (.bool false) (.node (.slice (some ⟨148, 0, none⟩) 2 0) .leaf .leaf) .leaf) aj6) ajP)) (.node (.pointer (some ⟨110, 0, none⟩)) (.node (.pointer (some ⟨240, 0, none⟩)) (.node (.tuple #[]) (.node (.agg #[.int .i64 0, .int .i64 9]) (.node (.pointer (some ⟨110, 3, none⟩)) .leaf .leaf) .leaf) SR) ajI) (.node (.tuple #[]) ajJ (.node (.int .i64 0) aj4 (.node (.bool false) .leaf .leaf))))) (.node (.int .i64 0) (.node (.slice (some ⟨62, 0, none⟩) 7 0) (.node (.int .i64 0) (.node (.tuple #[]) Q3 ajF) ajN) (.node (.tuple #[]) (.node (.tuple #[.slice (some ⟨17, 0, none⟩) 1 0, .int .i64 0]) (.node (.slice (some ⟨34, 0, none⟩) 2 0) (.node (.bool false) .leaf .leaf) .leaf) aj5) ajL)) (.node (.slice (some ⟨118, 0, none⟩) 7 0) (.node (.int .i64 0) (.node (.agg #[.int .i64 6, .int .i64 9]) (.node (.bool true) (.node (.agg #[.int .i64 2, .int .i64 4]) .leaf .leaf) .leaf) ajD) ajM) (.node (.tuple #[]) ajS (.node (.int .i64 0) SR (.node (.slice (some ⟨62, 0, none⟩) 7 0) .leaf .leaf)))))))
noncomputable def ajX : Fr := ⟨apY, 304, []⟩
noncomputable def ajY : List (Nat × aU) := [(241, .row 69 [.int .i64 0, .int .i64 0, .int .i64 1] true false), (240, .row 32 [.string ⟨#[97]⟩, .int .i64 0, .slice (some ⟨233, 0, none⟩) 3 0, .slice (some ⟨239, 0, none⟩) 1 0] true false), (239, .row 53 [.int .i64 2, .int .i64 3] true true), (233, .row 68 [.float .f32 1065353216, .float .f32 1077936128, .float .f32 0] true false), (151, .row 53 [.int .i64 2, .int .i64 3] true false)]
noncomputable def ajZ : List (Nat × aU) := ajY
noncomputable def ak0 : Heap := ⟨242, 1, ajZ⟩
noncomputable def ak1 : List Nat := [318, 291, 268, 241, 239, 233, 240, 151]
noncomputable def apZ : Tr := (.node (.bool false) (.node (.slice (some ⟨1, 0, none⟩) 2 0) (.node (.slice (some ⟨17, 0, none⟩) 1 0) (.node (.slice (some ⟨51, 0, none⟩) 2 0) (.node (.int .i64 0) (.node (.tuple #[]) (.node (.int .i64 0) (.node (.slice (some ⟨147, 0, none⟩) 7 0) .leaf .leaf) (.node (.slice (some ⟨268, 0, none⟩) 3 0) .leaf .leaf)) aj3) ajO) (.node (.slice (some ⟨268, 0, none⟩) 3 0) (.node (.slice (some ⟨1, 0, none⟩) 2 0) (.node (.bool false) (.node (.agg #[.int .i64 5, .int .i64 6]) .leaf .leaf) (.node (.agg #[.string ⟨#[104, 111, 111, 107]⟩, .int .i64 10, .slice (some ⟨293, 0, none⟩) 7 0, .slice (some ⟨294, 0, none⟩) 1 0]) .leaf .leaf)) aj1) ajV)) (.node (.int .i64 0) (.node (.slice (some ⟨151, 0, none⟩) 1 0) (.node (.tuple #[]) (.node (.slice (some ⟨17, 0, none⟩) 1 0) (.node (.bool false) .leaf .leaf) an1) aj8) ajR) (.node (.slice (some ⟨318, 0, none⟩) 3 0) ajG ajB))) (.node (.slice (some ⟨34, 0, none⟩) 2 0) (.node (.slice (some ⟨55, 0, none⟩) 2 0) (.node (.slice (some ⟨141, 0, none⟩) 1 0) (.node (.tuple #[]) (.node (.bool false) (.node (.bool false) .leaf .leaf) an1) amZ) ajQ) (.node (.slice (some ⟨291, 0, none⟩) 1 0) (.node (.slice (some ⟨2, 0, none⟩) 1 0) (.node (.bool false) (.node (.bool true) .leaf .leaf) (.node (.slice (some ⟨318, 0, none⟩) 3 0) .leaf .leaf)) ajA) ajT)) (.node (.int .i64 0) (.node (.pointer (some ⟨241, 0, none⟩)) (.node (.agg #[.int .i64 0, .int .i64 4]) (.node (.slice (some ⟨52, 0, none⟩) 1 0) (.node (.slice (some ⟨109, 0, none⟩) 2 0) .leaf .leaf) (.node (.int .i64 0) .leaf .leaf)) ajE) ajC) (.node (.tuple #[]) ajK (.node (.int .i64 0) aj9 (.node (.bool false) (.node (.agg #[.string ⟨#[104, 111, 111, 107]⟩, .int .i64 10, .slice (some ⟨243, 0, none⟩) 7 0, .slice (some ⟨244, 0, none⟩) 1 0]) .leaf .leaf) .leaf)))))) (.node (.slice (some ⟨2, 0, none⟩) 1 0) (.node (.int .i64 0) (.node (.int .i64 0) (.node (.pointer (some ⟨146, 0, none⟩)) (.node (.tuple #[]) (.node (.int .i64 0) (.node (.bool true) .leaf .leaf) (.node (.int .i64 0) .leaf .leaf)) aj2) ajU) (.node (.int .i64 0) (.node (.agg #[.int .i64 2, .int .i64 7]) (.node (.bool false) (.node (.slice (some ⟨148, 0, none⟩) 2 0) .leaf .leaf) an2) aj6) ajP)) (.node (.pointer (some ⟨110, 0, none⟩)) (.node (.pointer (some ⟨240, 0, none⟩)) (.node (.tuple #[]) (.node (.agg #[.int .i64 0, .int .i64 9]) (.node (.pointer (some ⟨110, 3, none⟩)) .leaf .leaf) (.node (.slice (some ⟨291, 0, none⟩) 1 0) .leaf .leaf)) SR) ajI) (.node (.int .i64 0) ajJ (.node (.int .i64 0) aj4 (.node (.bool false) an3 .leaf))))) (.node (.int .i64 0) (.node (.slice (some ⟨62, 0, none⟩) 7 0) (.node (.int .i64 0) (.node (.tuple #[]) (.node (.bool false) (.node (.bool false) .leaf .leaf) (.node (.agg #[.string ⟨#[104, 111, 111, 107]⟩, .int .i64 10, .slice (some ⟨270, 0, none⟩) 7 0, .slice (some ⟨271, 0, none⟩) 1 0]) .leaf .leaf)) ajF) ajN) (.node (.int .i64 0) (.node (.tuple #[.slice (some ⟨17, 0, none⟩) 1 0, .int .i64 0]) (.node (.slice (some ⟨34, 0, none⟩) 2 0) (.node (.bool false) .leaf .leaf) (.node (.int .i64 0) .leaf .leaf)) aj5) ajL)) (.node (.slice (some ⟨118, 0, none⟩) 7 0) (.node (.int .i64 0) (.node (.agg #[.int .i64 6, .int .i64 9]) (.node (.bool true) (.node (.agg #[.int .i64 2, .int .i64 4]) .leaf .leaf) an2) ajD) ajM) (.node (.tuple #[]) ajS (.node (.int .i64 0) SR (.node (.slice (some ⟨62, 0, none⟩) 7 0) an3 .leaf)))))))
noncomputable def ak2 : Fr := ⟨apZ, 304, []⟩
noncomputable def ak3 : List (Nat × aU) := [(318, .row 3 [.int .i64 0, .int .i64 4, .int .i64 6] true true), (291, .row 3 [.int .i64 0] true true), (268, .row 3 [.int .i64 0, .int .i64 3, .int .i64 6] true true)]
noncomputable def aq0 : List (Nat × aU) := ak3 ++ ajZ
noncomputable def ak4 : Heap := ⟨319, 1, aq0⟩
end Go.Proofs
namespace Go.Proofs
open Go.Fs
theorem asT : (rD Tryz.prog OB 9 100000 (SQ) ⟨j6 .leaf 0 [], Tryz.f6.ntmps, []⟩ (zH 1 tzG)).map (fun x => (x.1, x.2.1, x.2.2.1, gcH 1 an6 x.2.2.2)) = some (99991, MY 9 SQ, an7, an8) := by kernel_rfl
end Go.Proofs
namespace Go.Proofs
open Go.Fs
theorem aq1 : (rD Tryz.prog OB 5 99991 (MY 9 SQ) an7 an8).map (fun x => (x.1, x.2.1, x.2.2.1, gcH 1 ajW x.2.2.2)) = some (99986, MY 14 SQ, ajX, ak0) := by kernel_rfl
end Go.Proofs
namespace Go.Proofs
open Go.Fs
theorem aq2 : (rD Tryz.prog OB 3 99986 (MY 14 SQ) ajX ak0).map (fun x => (x.1, x.2.1, x.2.2.1, gcH 1 ak1 x.2.2.2)) = some (99983, MY 17 SQ, ak2, ak4) := by kernel_rfl
end Go.Proofs
namespace Go.Proofs
open Go.Fs
theorem asU : (zF Tryz.prog OB 99983 none (MY 17 SQ) ak2 ak4).bind (aiR Tryz.prog Tryz.f6 (zH 1 tzG)) = some (.bool true) := by kernel_rfl
end Go.Proofs
namespace Go.Proofs
open Go.Fs
noncomputable def an9 : List (Nat × List Nat) := [(9, an6), (5, ajW), (3, ak1)]
theorem aq3 : (nO Tryz.prog (fsG Tryz.prog OB 1 100000 an9) 6 [] (zH 1 tzG)).map (·.1) = some (.bool true) := by
  rw [aaT (c := SQ) Tryz.func6 rfl (by rfl)]; rw [alV (by kernel_rfl) (by kernel_rfl)]; unfold an9; show (E1 Tryz.prog OB 1 _ 100000 SQ ⟨j6 .leaf 0 [], Tryz.f6.ntmps, []⟩ (zH 1 tzG)).bind _ = _; rw [FZ asT]; rw [FZ aq1]; rw [FZ aq2]; exact asU
end Go.Proofs
namespace Go.Proofs
open Go.Fs Go.RowKit
set_option maxHeartbeats 40000000
set_option maxRecDepth 100000
theorem IM : ∀ args w, (callFunc 101 args).run Tryz.prog w = .ok (.enter 101 args) w := enters_of Tryz.func101 (by kernel_rfl) rfl
theorem alZ : ∀ args w, (callFunc 102 args).run Tryz.prog w = .ok (.enter 102 args) w := enters_of Tryz.func102 (by kernel_rfl) rfl
theorem ak5 : ∀ args w, (callFunc 55 args).run Tryz.prog w = .ok (.enter 55 args) w := enters_of Tryz.func55 (by kernel_rfl) rfl
theorem aq4 {s : ByteArray} (hs : s.size <= 1000000000) (w : World) {tp : TypeId} {p : Value} (h : Lib.atoiAll s.data.toList = Lib.NumEnd.syntax) (N1 : w.var? Tryz.prog "strconv.ErrSyntax" = some #[.iface tp p]) :
    Calls Tryz.prog 61 #[.string s] w fun e w' => e = .returned (.tuple #[.int .i64 0, .bool false]) /\ Below w.heap.size w w' := by
  have ak6 := IM
  go_enter Tryz.func61, (rfl : Tryz.f61.ntmps = _)
  go_wp2_with (go_at_fn 101; refine (Tryz.strconv_Atoi_syntax_var s (by omega) h tp p w N1).mono ?_; rintro e w' ⟨N, rfl, h1, h2, h3⟩)
  refine bodyPost_ret (v := .tuple #[.int .i64 0, .bool false]) (by kernel_rfl) rfl ⟨rfl, h3⟩
theorem aq5 {s : ByteArray} (hs : s.size <= 1000000000) (w : World) {tp : TypeId} {p : Value} (h : Lib.atoiAll s.data.toList = .range) (N1 : w.var? Tryz.prog "strconv.ErrRange" = some #[.iface tp p]) :
    Calls Tryz.prog 61 #[.string s] w fun e w' => e = .returned (.tuple #[.int .i64 (Lib.atoiSat s.data.toList), .bool false]) /\ Below w.heap.size w w' := by
  have ak6 := IM
  go_enter Tryz.func61, (rfl : Tryz.f61.ntmps = _)
  go_wp2_with (go_at_fn 101; refine (Tryz.strconv_Atoi_range_var s (by omega) h tp p w N1).mono ?_; rintro e w' ⟨N, rfl, h1, h2, h3⟩)
  refine bodyPost_ret (v := .tuple #[.int .i64 (Lib.atoiSat s.data.toList), .bool false]) (by kernel_rfl) rfl ⟨rfl, h3⟩
theorem wB {w W : World} (hW : W = w \/ ∃ t, W = Lib.bytesWorld w 5 t) : Below w.heap.size w W := by
  rcases hW with rfl | ⟨t, rfl⟩
  . exact Below.refl _ _
  . exact Lib.bytesWorld_below _ _ _
theorem asV {s : ByteArray} (hs : s.size <= 1000000000) (w : World) {v : Int} (h : Lib.atoiAll s.data.toList = .ok v) (hq : ¬ Lib.itoa v = s.toList) (h0 : -9223372036854775808 <= v) (h1 : v <= 9223372036854775807) (ht : ∀ w', Below w.heap.size w w' -> Lib.TabIs Tryz.prog w' "internal/strconv.uint64pow10" .u64 Lib.pow10Tab) :
    Calls Tryz.prog 61 #[.string s] w fun e w' => e = .returned (.tuple #[.int .i64 v, .bool false]) /\ Below w.heap.size w w' := by
  have ak6 := IM; have e55 := ak5
  go_enter Tryz.func61, (rfl : Tryz.f61.ntmps = _)
  go_wp2_with (first | (go_at_fn 101; refine (Tryz.strconv_Atoi_ok s (by omega) v h w).mono ?_; rintro e W1 ⟨rfl, hW⟩) | (go_at_fn 55; refine (Tryz.strconv_Itoa v h0 h1 _ (ht _ (wB hW))).mono ?_; rintro e W3 ⟨rfl, k, os, hW3⟩))
  refine bodyPost_ret (v := .tuple #[.int .i64 v, .bool false]) (by kernel_rfl) rfl ⟨rfl, ?_⟩; exact (wB hW).trans ((Lib.below_grow _ _ (Nat.le_refl _) _ _).mono (wB hW).size)
theorem aq6 {s : ByteArray} (hs : s.size <= 1000000000) (w : World) {v : Int} (h : Lib.atoiAll s.data.toList = .ok v) (hq : Lib.itoa v = s.toList) (h0 : -9223372036854775808 <= v) (h1 : v <= 9223372036854775807) (ht : ∀ w', Below w.heap.size w w' -> Lib.TabIs Tryz.prog w' "internal/strconv.uint64pow10" .u64 Lib.pow10Tab) :
    Calls Tryz.prog 61 #[.string s] w fun e w' => e = .returned (.tuple #[.int .i64 v, .bool (decide ((((Lib.trimPrefix s.data.toList [45]).length : Nat) : Int) <= 9))]) /\ Below w.heap.size w w' := by
  have ak6 := IM; have au3 := alZ; have e55 := ak5
  go_enter Tryz.func61, (rfl : Tryz.f61.ntmps = _)
  go_wp2_with (first | (go_at_fn 101; refine (Tryz.strconv_Atoi_ok s (by omega) v h w).mono ?_; rintro e W1 ⟨rfl, hW⟩) | (go_at_fn 102; refine (Tryz.strings_TrimPrefix s ⟨#[45]⟩ _).mono ?_; rintro e W2 ⟨rfl, rfl⟩) | (go_at_fn 55; refine (Tryz.strconv_Itoa v h0 h1 _ (ht _ (wB hW))).mono ?_; rintro e W3 ⟨rfl, k, os, hW3⟩))
  refine bodyPost_ret (v := .tuple #[.int .i64 v, .bool (decide ((((Lib.trimPrefix s.data.toList [45]).length : Nat) : Int) <= 9))]) (by kernel_rfl) rfl ⟨rfl, ?_⟩; exact (wB hW).trans ((Lib.below_grow _ _ (Nat.le_refl _) _ _).mono (wB hW).size)
theorem am0 (l : List UInt8) : Lib.trimPrefix l [45] = jN l := by
  unfold Lib.trimPrefix Lib.hasPrefix jN
  cases l with
  | nil => rfl
  | cons c r =>
    by_cases hc : c = 45
    . subst hc; simp
    . simp [hc, Ne.symm hc]
/-- gauge.integer answers asl the oracle does. -/
theorem aq7 {s : ByteArray} (hs : s.size <= 1000000000) (w : World) (ht : ∀ w', Below w.heap.size w w' -> Lib.TabIs Tryz.prog w' "internal/strconv.uint64pow10" .u64 Lib.pow10Tab)
    {t1 t2 : TypeId} {p1 p2 : Value} (KF : w.var? Tryz.prog "strconv.ErrSyntax" = some #[.iface t1 p1]) (R0 : w.var? Tryz.prog "strconv.ErrRange" = some #[.iface t2 p2]) :
    Calls Tryz.prog 61 #[.string s] w fun | .returned v', w' => v' = .tuple #[.int .i64 (dY s), .bool (fV s)] /\ Below w.heap.size w w' | _, _ => False := by
  have fin : ∀ {a : Int} {b : Bool}, dY s = a -> fV s = b -> Calls Tryz.prog 61 #[.string s] w (fun e w' => e = .returned (.tuple #[.int .i64 a, .bool b]) /\ Below w.heap.size w w') -> Calls Tryz.prog 61 #[.string s] w fun | .returned v', w' => v' = .tuple #[.int .i64 (dY s), .bool (fV s)] /\ Below w.heap.size w w' | _, _ => False := fun ha hb hc => hc.mono fun e w' he => by
    obtain ⟨rfl, h2⟩ := he; exact ⟨by rw [ha, hb], h2⟩
  match h : Lib.atoiAll s.data.toList with
  | Lib.NumEnd.syntax => exact fin (by unfold dY; rw [h]) (by unfold fV; rw [h]) (aq4 hs w h KF)
  | Lib.NumEnd.range => exact fin (by unfold dY; rw [h]) (by unfold fV; rw [h]) (aq5 hs w h R0)
  | Lib.NumEnd.ok v =>
    obtain ⟨h0, h1⟩ := Lib.atoiAll_bounds h
    have hd : decide ((⟨(Lib.itoa v).toArray⟩ : ByteArray) = s) = decide (Lib.itoa v = s.toList) := by
      rw [Bool.eq_iff_iff, decide_eq_true_eq, decide_eq_true_eq, Lib.toList_data]; constructor
      . intro h; rw [<- h]
      . intro h; rw [h]
    by_cases hq : Lib.itoa v = s.toList
    . refine fin (a := v) (by unfold dY; rw [h]) ?_ (aq6 hs w h hq h0 h1 ht); unfold fV; rw [h]; show (decide ((jN s.data.toList).length <= 9) && _) = _; rw [<- am0, hd, decide_eq_true hq, Bool.and_true, Bool.eq_iff_iff, decide_eq_true_eq, decide_eq_true_eq]; omega
    . refine fin (a := v) (by unfold dY; rw [h]) ?_ (asV hs w h hq h0 h1 ht); unfold fV; rw [h]; show (decide ((jN s.data.toList).length <= 9) && _) = _; rw [hd, decide_eq_false hq, Bool.and_false]
end Go.Proofs
namespace Go.Proofs.YteooaaiacpcfoaaGreatDoor
open Go.ChangeShapes Go.WideShapes Go.ChangeAt Go.RowKit Go.Fs
theorem own : ownKnob Tryz.prog.godebug = none := by kernel_rfl
theorem laidOut : laidOutB Tryz.prog = true := by kernel_rfl
def N2 : List (String × DataW Unit) := [("math/bits.deBruijn32tab", Rows.laid_math_bits_deBruijn32tab), ("math/bits.deBruijn64tab", Rows.laid_math_bits_deBruijn64tab), ("internal/strconv.uint64pow10", Rows.laid_internal_strconv_uint64pow10), ("unicode/utf8.acceptRanges", Rows.laid_unicode_utf8_acceptRanges), ("strconv.ErrRange", Rows.laid_strconv_ErrRange), ("strconv.ErrSyntax", Rows.laid_strconv_ErrSyntax), ("unicode/utf8.first", Rows.laid_unicode_utf8_first)]
theorem asW : ∃ g : Nat, Tryz.prog.globalNamed "internal/strconv.uint64pow10" = some g /\ (Tryz.prog.globals[g]?).map (·.type) = some 239 := ⟨2, by kernel_rfl, by kernel_rfl⟩
theorem am1 {W : World} (h : laidMet Tryz.prog N2 W) : Lib.TabIs Tryz.prog W "internal/strconv.uint64pow10" .u64 Lib.pow10Tab := by
  obtain ⟨g, h1, h2⟩ := asW; exact Lib.tabIs_of_head h1 h2 Tryz.underlying239 Tryz.underlying202 (by kernel_rfl) (by kernel_rfl) (laidMet.tail (laidMet.tail h))
theorem XC : "*" ++ "errors.errorString" = "*errors.errorString" := by decide
theorem XD (u : TypeId) (h : Tryz.prog.typeName? 3 u = some "*errors.errorString") : u = 256 :=
  typeName_ptr_named (nm := "errors.errorString") (by rw [XC]; kernel_rfl) (by kernel_rfl) (by decide) u (by rw [XC]; exact h)
theorem asX {W : World} (h : laidMet Tryz.prog N2 W) : ∃ p : Value, W.var? Tryz.prog "strconv.ErrSyntax" = some #[.iface 256 p] := by
  obtain ⟨a, s, h1, _⟩ := _root_.Go.laid_sentinel (laidMet.tail (laidMet.tail (laidMet.tail (laidMet.tail (laidMet.tail h))))) (g := 3) (by kernel_rfl) (by kernel_rfl) Tryz.underlying101 XD Tryz.underlying256 Tryz.underlying258 rfl rfl Tryz.underlying9 (by kernel_rfl) (by kernel_rfl); exact ⟨_, h1⟩
theorem asY {W : World} (h : laidMet Tryz.prog N2 W) : ∃ p : Value, W.var? Tryz.prog "strconv.ErrRange" = some #[.iface 256 p] := by
  obtain ⟨a, s, h1, _⟩ := _root_.Go.laid_sentinel (laidMet.tail (laidMet.tail (laidMet.tail (laidMet.tail h)))) (g := 4) (by kernel_rfl) (by kernel_rfl) Tryz.underlying101 XD Tryz.underlying256 Tryz.underlying258 rfl rfl Tryz.underlying9 (by kernel_rfl) (by kernel_rfl); exact ⟨_, h1⟩
theorem aq8 : Fs.Enters Tryz.prog 61 := ⟨_, Tryz.func61, rfl, by kernel_rfl⟩
theorem am2 {W : World} : ∀ x ∈ tzG, FY Tryz.prog W.heap.size W x := fun x hx => by cases hx
theorem aqP : GT (⟨1, 1, []⟩ : Heap) [] := fun v hv => by cases hv
theorem akI {W : World} (h : laidMet Tryz.prog N2 W) : HR Tryz.prog (fun _ => Loc.clean 0 0 0 0) (fun _ => False) W.heap.size (Go.Fs.wz W) ⟨1, 1, []⟩ W := adF (Nat.zero_le _)
theorem N3 {w w' : World} {n : String} {cs : Array Value} (hb : Below w.heap.size w w') (h : w.var? Tryz.prog n = some cs) : w'.var? Tryz.prog n = some cs := by
  unfold World.var? at h ⊢
  cases hg : Tryz.prog.globalNamed n with
  | none => rw [hg] at h; cases h
  | some g =>
    rw [hg] at h; simp only [Option.bind_some] at h ⊢; by_cases hl : g < w.heap.size
    . rw [hb.block g hl]; exact h
    . rw [Array.getElem?_eq_none (by omega)] at h; cases h
/-- The oracle is sound wherever the tables and the error variables lie. -/
theorem anM {W : World} (h : laidMet Tryz.prog N2 W) : cB Tryz.prog W.heap.size (Go.Fs.wz W) OA := by
  have ht := am1 h; obtain ⟨p1, KF⟩ := asX h; obtain ⟨p2, R0⟩ := asY h; have hT : ∀ w, Below W.heap.size W w -> Lib.TabIs Tryz.prog w "internal/strconv.uint64pow10" .u64 Lib.pow10Tab := Lib.tabBelow_of_tabIs ht
  have hS : ∀ w, Below W.heap.size W w -> cB Tryz.prog w.heap.size (Go.Fs.wz w) OB := fun w hw =>
    alX rfl (Nat.le_refl _) fun w' AJ => hT w' (hw.trans ((vA AJ).mono hw.size))
  refine US ?_ XB (fun b w h0 h1 h2 => Any.Builder_copyCheck_fresh IL SP b w h0 h1 h2) (fun b w h0 => Any.Builder_copyCheck_used IL SP b w h0); refine UR rfl ?_ aq8 fun s w hw hs => ?_
  . refine UH rfl (aiZ rfl (Nat.le_refl _) fun w' AJ => hT w' (vA AJ)) aeT fun w hw => ?_; exact N0 amB (n := 1) (L := tzG) (fun x hx => by cases hx) (by decide) am2 (fun w hw => hw.size) (fun w' AJ => hS w' AJ) aq3 w (vA hw)
  . have AJ := vA hw; exact aq7 hs w (fun w2 h2 => hT w2 (AJ.trans (h2.mono AJ.size))) (N3 AJ KF) (N3 AJ R0)
/-- The door's heap, with the table of first bytes, which the kit pins. -/
def ak7 : List Value := match Rows.laid_unicode_utf8_first with
  | .agg ds => ds.map fun | .lit (.int k n) => .int k n | _ => .nilIface
  | _ => []
def aaV (o : Obj) : Obj := match o with
  | .cells _ t fr => .cells ak7.toArray t fr
  | o => o
noncomputable def B9 (os : Os) : World := { World.doorLaid Tryz.prog 200 os with heap := (World.doorLaid Tryz.prog 200 os).heap.modify 7 aaV }
end Go.Proofs.YteooaaiacpcfoaaGreatDoor
