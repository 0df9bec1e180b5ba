/- Parts of the proof: an evaluator of the model, what it is sound for, and contracts of functions. No condition. -/
import Derived.Test.YthiofhkndpegjaaGreatDoorP10SgBase
import Derived.Test.YthiofhkndpegjaaGreatDoorP3
import Derived.Test.YthiofhkndpegjaaGreatDoorP5
import Derived.Sort.AssemblyPlain
import Derived.Shelf.SlSortCmp.InsertionK
import Derived.Lib.QuietBelow
import Derived.Test.YthiofhkndpegjaaGreatDoorP7
import Derived.Test.YthiofhkndpegjaaGreatDoorProg
import Derived.KernelRfl
import Derived.Shelf.SlSortCmp.WholeK
import Derived.Shelf.SlSortCmp.NoneTotal
import Derived.Test.YthiofhkndpegjaaGreatDoorCards
import Derived.Test.YthiofhkndpegjaaGreatDoorTie
import Derived.Test.YthiofhkndpegjaaGreatDoorP6
import Derived.WalkKit
import Derived.ProofKit
import Derived.LaidMore
import Derived.Deep.DeepHandedRow
import Derived.Lib.LaidTab
import Derived.Stop.LaidErr
set_option linter.all false
namespace Go.Proofs
open Go.Fs
noncomputable def tzq0 : Value := .string ⟨#[104, 111, 111, 107]⟩
noncomputable def tzq1 : Value := .string ⟨#[103, 97, 117, 103, 101, 32, 104, 111, 111, 107, 32, 49, 48, 10, 49, 54, 10, 49, 54, 10, 49, 54, 10, 56, 48, 10, 50, 52, 10, 45, 10, 51, 50, 10]⟩
noncomputable def tzq2 : Value := .string ⟨#[97]⟩
noncomputable def tzq3 : Value := .string ⟨#[115, 116, 117, 99, 107]⟩
noncomputable def tzq4 : Value := .string ⟨#[106, 117, 109, 112]⟩
noncomputable def tzq5 : Value := .string ⟨#[114, 97, 110, 103, 101]⟩
noncomputable def tzq6 : Value := .string ⟨#[98]⟩
noncomputable def tzq7 : Value := .string ⟨#[99]⟩
noncomputable def tzn : Value := .slice none 0 0
noncomputable def tzu : Value := .tuple #[]
noncomputable def tzs (b n : Nat) : Value := .slice (some ⟨b, 0, none⟩) n 0
noncomputable def tzi (n : Int) : Value := .int .i64 n
noncomputable def tzp (b o : Nat) : Value := .pointer (some ⟨b, o, none⟩)
noncomputable def tzC : Code := match Tryz.f15.body with | some c => c | none => .skip
noncomputable def tzx0 : Tr := (.node (.bool false) (.node (.bool false) .leaf .leaf) .leaf)
noncomputable def tzx1 : Tr := (.node (tzi 0) (.node (tzi 0) .leaf .leaf) .leaf)
noncomputable def tzx2 : Tr := (.node (tzi 0) (.node (tzn) .leaf .leaf) .leaf)
noncomputable def tzx3 : Tr := (.node (.agg #[tzi 0, tzi 0, tzi 1]) .leaf .leaf)
noncomputable def tzx4 : Tr := (.node (.tuple #[tzs 62 7, tzi 0]) .leaf .leaf)
noncomputable def tzx5 : Tr := (.node (.tuple #[tzs 118 7, tzi 0]) .leaf .leaf)
noncomputable def tzx6 : Tr := (.node (.tuple #[tzs 291 1, tzi 0]) .leaf .leaf)
noncomputable def tzx7 : Tr := (.node (.tuple #[tzs 318 3, tzi 0]) .leaf .leaf)
noncomputable def tzx8 : Tr := (.node (.tuple #[tzs 268 3, tzi 0]) .leaf .leaf)
noncomputable def tzx9 : Tr := (.node (.tuple #[tzs 345 2, tzi 0]) .leaf .leaf)
noncomputable def tzx10 : Tr := (.node (tzs 1 2) (.node (.bool false) .leaf .leaf) .leaf)
noncomputable def tzx11 : Tr := (.node (tzs 2 1) (.node (.bool false) .leaf .leaf) .leaf)
noncomputable def tzx12 : Tr := (.node (tzi 0) (.node (tzs 55 2) .leaf .leaf) .leaf)
noncomputable def tzx13 : Tr := (.node (tzi 0) (.node (tzs 54 2) .leaf .leaf) .leaf)
noncomputable def tzx14 : Tr := (.node (tzs 54 2) (.node (tzi 7) .leaf .leaf) .leaf)
noncomputable def tzx15 : Tr := (.node (tzs 55 2) (.node (.bool false) .leaf .leaf) .leaf)
noncomputable def tzx16 : Tr := (.node (tzs 51 2) (.node (.bool false) .leaf .leaf) .leaf)
noncomputable def tzx17 : Tr := (.node (.bool true) (.node (tzs 149 7) .leaf .leaf) .leaf)
noncomputable def tzx18 : Tr := (.node (tzi 0) (.node (.agg #[tzi 5, tzi 6]) .leaf .leaf) .leaf)
noncomputable def tzx19 : Tr := (.node (.agg #[tzi 2, tzi 4]) (.node (.bool false) .leaf .leaf) .leaf)
noncomputable def tzx20 : Tr := (.node (tzs 114 1) (.node (.bool false) .leaf .leaf) .leaf)
noncomputable def tzx21 : Tr := (.node (tzi 0) (.node (tzs 151 1) .leaf .leaf) .leaf)
noncomputable def tzx22 : Tr := (.node (tzi 0) (.node (tzs 154 3) .leaf .leaf) .leaf)
noncomputable def tzx23 : Tr := (.node (.agg #[tzi 6, tzi 7]) (.node (.bool false) .leaf .leaf) .leaf)
noncomputable def tzx24 : Tr := (.node (tzu) (.node (.bool false) .leaf .leaf) (.node (tzi 0) .leaf .leaf))
noncomputable def tzx25 : Tr := (.node (.agg #[tzq4, tzi 16, tzi 0]) .leaf .leaf)
noncomputable def tzx26 : Tr := (.node (tzi 0) (.node (.bool true) .leaf .leaf) (.node (tzi 0) .leaf .leaf))
noncomputable def tzx27 : Tr := (.node (.agg #[tzq3, tzi 2, tzi 0]) .leaf .leaf)
noncomputable def tzx28 : Tr := (.node (tzi 0) tzx3 .leaf)
noncomputable def tzx29 : Tr := (.node (tzs 55 2) (.node (tzp 144 5) .leaf .leaf) .leaf)
noncomputable def tzx30 : Tr := (.node (tzs 62 7) (.node (tzp 146 3) .leaf .leaf) .leaf)
noncomputable def tzx31 : Tr := (.node (.agg #[tzi 0, tzi 2]) (.node (tzp 146 2) .leaf .leaf) .leaf)
noncomputable def tzx32 : Tr := (.node (tzs 53 2) (.node (tzs 118 7) .leaf .leaf) .leaf)
noncomputable def tzx33 : Tr := (.node (.tuple #[tzs 51 2, tzi 0]) (.node (.bool true) .leaf .leaf) .leaf)
noncomputable def tzx34 : Tr := (.node (tzs 118 7) (.node (tzs 151 1) .leaf .leaf) .leaf)
noncomputable def tzx35 : Tr := (.node (.agg #[tzi 7, tzi 9]) (.node (tzs 144 7) .leaf .leaf) .leaf)
noncomputable def tzx36 : Tr := (.node (tzi 0) tzx4 .leaf)
noncomputable def tzx37 : Tr := (.node (.tuple #[tzs 62 7, tzi 0]) (.node (.bool false) .leaf .leaf) .leaf)
noncomputable def tzx38 : Tr := (.node (.bool false) tzx8 .leaf)
noncomputable def tzx39 : Tr := (.node (tzs 1 2) (.node (.bool false) .leaf .leaf) (.node (tzi 0) .leaf .leaf))
noncomputable def tzx40 : Tr := (.node (tzu) (.node (tzi 0) .leaf .leaf) (.node (tzs 62 7) .leaf .leaf))
noncomputable def tzx41 : Tr := (.node (.agg #[tzq2, tzi 0, tzs 152 3, tzn]) .leaf .leaf)
noncomputable def tzx42 : Tr := (.node (.bool false) (.node (.bool true) .leaf .leaf) (.node (tzs 318 3) .leaf .leaf))
noncomputable def tzx43 : Tr := (.node (tzs 34 2) (.node (.bool false) .leaf .leaf) (.node (tzi 0) .leaf .leaf))
noncomputable def tzx44 : Tr := (.node (.tuple #[tzs 62 7, tzi 0]) (.node (.float .f32 1069547520) .leaf .leaf) .leaf)
noncomputable def tzx45 : Tr := (.node (.agg #[tzq5, tzi 0, tzi 48]) (.node (.bool false) .leaf .leaf) .leaf)
noncomputable def tzx46 : Tr := (.node (tzs 62 7) tzx8 .leaf)
noncomputable def tzx47 : Tr := (.node (.agg #[tzq6, tzi 0, tzs 153 3, tzs 151 1]) .leaf .leaf)
noncomputable def tzx48 : Tr := (.node (.agg #[tzq2, tzi 0, tzs 233 3, tzs 239 1]) .leaf .leaf)
noncomputable def tzx49 : Tr := (.node (.tuple #[tzs 118 7, tzi 0]) (.node (tzs 150 1) .leaf .leaf) .leaf)
noncomputable def tzx50 : Tr := (.node (.tuple #[tzs 118 7, tzi 0]) (.node (.agg #[tzi 2, tzi 3]) .leaf .leaf) .leaf)
noncomputable def tzx51 : Tr := (.node (.agg #[tzq7, tzi 0, tzs 154 3, tzs 151 1]) .leaf .leaf)
noncomputable def tzx52 : Tr := (.node (.tuple #[.agg #[tzi 6, tzi 184, .float .f32 1065353216, .float .f32 1084227584], tzi 0]) .leaf .leaf)
noncomputable def tzx53 : Tr := (.node (tzu) (.node (.agg #[tzi 0, tzi 9]) .leaf .leaf) (.node (tzs 55 2) .leaf .leaf))
noncomputable def tzx54 : Tr := (.node (tzs 52 1) (.node (tzs 109 2) .leaf .leaf) (.node (tzi 0) .leaf .leaf))
noncomputable def tzx55 : Tr := (.node (tzu) (.node (tzi 0) .leaf .leaf) tzx4)
noncomputable def tzx56 : Tr := (.node (tzi 0) (.node (tzs 147 7) .leaf .leaf) (.node (tzs 268 3) .leaf .leaf))
noncomputable def tzx57 : Tr := (.node (.bool false) (.node (.bool false) .leaf .leaf) tzx6)
noncomputable def tzx58 : Tr := (.node (.agg #[tzq4, tzi 16, tzi 0]) (.node (tzp 146 2) .leaf .leaf) .leaf)
noncomputable def tzx59 : Tr := (.node (tzs 51 2) tzx27 .leaf)
noncomputable def tzx60 : Tr := (.node (.agg #[tzq3, tzi 2, tzi 0]) (.node (tzs 144 7) .leaf .leaf) .leaf)
noncomputable def tzx61 : Tr := (.node (.agg #[tzq0, tzi 10, tzs 75 7, tzs 76 1]) .leaf .leaf)
noncomputable def tzx62 : Tr := (.node (.agg #[tzq0, tzi 10, tzs 57 7, tzs 58 1]) .leaf .leaf)
noncomputable def tzx63 : Tr := (.node (.agg #[tzq0, tzi 10, tzs 95 7, tzs 109 2]) .leaf .leaf)
noncomputable def tzx64 : Tr := (.node (.agg #[tzq0, tzi 10, tzs 293 7, tzs 294 1]) .leaf .leaf)
noncomputable def tzx65 : Tr := (.node (.agg #[tzq0, tzi 10, tzs 243 7, tzs 244 1]) .leaf .leaf)
noncomputable def tzx66 : Tr := (.node (.agg #[tzq0, tzi 10, tzs 270 7, tzs 271 1]) .leaf .leaf)
noncomputable def tzx67 : Tr := (.node (.agg #[tzi 0, tzi 9]) (.node (tzp 110 3) .leaf .leaf) (.node (tzs 291 1) .leaf .leaf))
noncomputable def tzx68 : Tr := (.node (tzs 17 1) (.node (.bool false) .leaf .leaf) tzx6)
noncomputable def tzx69 : Tr := (.node (.bool true) (.node (.agg #[tzi 2, tzi 4]) .leaf .leaf) tzx7)
noncomputable def tzx70 : Tr := (.node (tzi 0) tzx48 .leaf)
noncomputable def tzx71 : Tr := (.node (tzi 0) tzx51 .leaf)
noncomputable def tzx72 : Tr := (.node (.bool false) (.node (tzs 148 2) .leaf .leaf) tzx7)
noncomputable def tzx73 : Tr := (.node (.tuple #[tzs 51 2, tzi 0]) tzx25 .leaf)
noncomputable def tzx74 : Tr := (.node (.tuple #[.agg #[tzq0, tzi 10, tzs 95 7, tzs 109 2], tzi 0]) .leaf .leaf)
noncomputable def tzx75 : Tr := (.node (tzi 0) tzx62 .leaf)
noncomputable def tzx76 : Tr := (.node (.agg #[tzq0, tzi 10, tzs 75 7, tzs 76 1]) (.node (.bool false) .leaf .leaf) .leaf)
noncomputable def tzx77 : Tr := (.node (.agg #[tzq0, tzi 10, tzs 57 7, tzs 58 1]) (.node (.bool false) .leaf .leaf) .leaf)
noncomputable def tzx78 : Tr := (.node (.agg #[tzq0, tzi 10, tzs 112 7, tzs 113 1]) (.node (.bool true) .leaf .leaf) .leaf)
noncomputable def tzx79 : Tr := (.node (.bool false) tzx65 .leaf)
noncomputable def tzx80 : Tr := (.node (tzs 141 1) tzx47 .leaf)
noncomputable def tzx81 : Tr := (.node (.agg #[tzq0, tzi 10, tzs 144 7, tzn]) (.node (tzs 151 1) .leaf .leaf) .leaf)
noncomputable def tzx82 : Tr := (.node (.tuple #[.agg #[tzq0, tzi 10, tzs 144 7, tzn], tzs 141 1, tzi 0]) .leaf .leaf)
noncomputable def tzx83 : Tr := (.node (tzi 0) tzx29 tzx1)
noncomputable def tzx84 : Tr := (.node (tzi 0) tzx14 tzx21)
noncomputable def tzx85 : Tr := (.node (.agg #[tzq0, tzi 10, tzs 95 7, tzs 109 2]) (.node (tzs 141 1) .leaf .leaf) .leaf)
noncomputable def tzx86 : Tr := (.node (.tuple #[.agg #[tzq0, tzi 10, tzs 95 7, tzs 109 2], tzi 0]) (.node (.bool false) .leaf .leaf) .leaf)
noncomputable def tzx87 : Tr := (.node (.tuple #[.agg #[tzq0, tzi 10, tzs 95 7, tzs 109 2], tzi 0]) (.node (tzi 0) .leaf .leaf) .leaf)
noncomputable def tzx88 : Tr := (.node (.tuple #[.agg #[tzq2, tzi 0, tzs 233 3, tzs 239 1], .agg #[tzi 0, tzi 0, tzi 1], tzi 0]) .leaf .leaf)
noncomputable def tzx89 : Tr := (.node (.bool false) (.node (.bool false) .leaf .leaf) tzx66)
noncomputable def tzx90 : Tr := (.node (.tuple #[tzq1, tzi 0]) .leaf .leaf)
noncomputable def tzx91 : Tr := (.node (tzs 1 2) tzx19 tzx20)
noncomputable def tzx92 : Tr := (.node (tzu) tzx39 tzx10)
noncomputable def tzx93 : Tr := (.node (tzu) (.node (tzs 17 1) .leaf .leaf) tzx61)
noncomputable def tzx94 : Tr := (.node (.agg #[tzi 6, tzi 9]) (.node (.bool true) .leaf .leaf) tzx63)
noncomputable def tzx95 : Tr := (.node (tzu) (.node (.bool false) .leaf .leaf) tzx74)
noncomputable def tzx96 : Tr := (.node (.bool false) (.node (.agg #[tzi 5, tzi 6]) .leaf .leaf) tzx64)
noncomputable def tzx97 : Tr := (.node (tzi 0) tzx88 .leaf)
noncomputable def tzx98 : Tr := (.node (tzs 34 2) tzx35 tzx22)
noncomputable def tzx99 : Tr := (.node (tzi 0) tzx15 tzx46)
noncomputable def tzx100 : Tr := (.node (.tuple #[.agg #[tzq0, tzi 10, tzs 144 7, tzn], tzs 141 1, tzi 0]) (.node (tzs 152 3) .leaf .leaf) .leaf)
noncomputable def tzx101 : Tr := (.node (.tuple #[.agg #[tzq0, tzi 10, tzs 144 7, tzn], tzs 141 1, tzi 0]) (.node (tzs 153 3) .leaf .leaf) .leaf)
noncomputable def tzx102 : Tr := (.node (tzi 0) tzx44 tzx38)
noncomputable def tzx103 : Tr := (.node (.agg #[tzq0, tzi 10, tzs 128 7, tzs 129 1]) tzx41 .leaf)
noncomputable def tzx104 : Tr := (.node (tzs 2 1) tzx23 tzx50)
noncomputable def tzx105 : Tr := (.node (tzu) tzx67 tzx15)
noncomputable def tzx106 : Tr := (.node (.agg #[tzi 0, tzi 4]) (.node (tzs 52 1) .leaf .leaf) tzx74)
noncomputable def tzx107 : Tr := (.node (.tuple #[tzs 17 1, tzi 0]) tzx32 tzx34)
noncomputable def tzx108 : Tr := (.node (tzs 51 2) tzx60 tzx28)
noncomputable def tzx109 : Tr := (.node (.tuple #[tzs 51 2, tzi 0]) (.node (.bool true) (.node (.bool false) .leaf .leaf) .leaf) tzx71)
noncomputable def tzx110 : Tr := (.node (.tuple #[tzs 17 1, tzi 0]) tzx43 tzx45)
noncomputable def tzx111 : Tr := (.node (tzs 2 1) tzx16 tzx81)
noncomputable def tzx112 : Tr := (.node (.agg #[tzq2, tzi 0, tzs 152 3, tzn, tzq6, tzi 0, tzs 153 3, tzs 151 1, tzq7, tzi 0, tzs 154 3, tzs 151 1]) .leaf .leaf)
noncomputable def tzx113 : Tr := (.node (tzi 0) (.node (.bool false) (.node (.bool true) .leaf .leaf) .leaf) tzx100)
noncomputable def tzx114 : Tr := (.node (tzs 2 1) tzx42 tzx78)
noncomputable def tzx115 : Tr := (.node (.agg #[tzi 2, tzi 7]) tzx72 tzx49)
noncomputable def tzx116 : Tr := (.node (tzs 2 1) tzx0 tzx97)
noncomputable def tzx117 : Tr := (.node (tzi 0) tzx112 .leaf)
noncomputable def tzx118 : Tr := (.node (tzs 1 2) tzx0 tzx101)
noncomputable def tzx119 : Tr := (.node (.tuple #[tzs 34 2, tzi 0]) tzx31 tzx80)
noncomputable def tzx120 : Tr := (.node (tzu) tzx94 tzx33)
noncomputable def tzx121 : Tr := (.node (tzs 1 2) tzx96 tzx18)
noncomputable def tzx122 : Tr := (.node (tzu) tzx68 tzx76)
noncomputable def tzx123 : Tr := (.node (tzs 17 1) tzx17 tzx97)
noncomputable def tzx124 : Tr := (.node (.tuple #[tzs 51 2, tzi 0]) tzx58 tzx70)
noncomputable def tzx125 : Tr := (.node (tzi 0) tzx77 tzx79)
noncomputable def tzx126 : Tr := (.node (tzu) tzx106 tzx13)
noncomputable def tzx127 : Tr := (.node (.agg #[tzi 0, tzi 4]) tzx54 tzx86)
noncomputable def tzx128 : Tr := (.node (.tuple #[tzs 34 2, tzi 0]) tzx0 tzx103)
noncomputable def tzx129 : Tr := (.node (.agg #[tzi 6, tzi 9]) tzx69 tzx85)
noncomputable def tzx130 : Tr := (.node (tzs 1 2) tzx0 tzx117)
noncomputable def tzx131 : Tr := (.node (tzi 0) tzx110 tzx108)
noncomputable def tzT9 : Tr := (.node (.bool false) (.node (tzs 1 2) (.node (tzs 17 1) (.node (tzs 51 2) (.node (tzu) tzx55 (.node (tzi 0) (.node (.bool false) .leaf .leaf) .leaf)) tzx92) (.node (tzi 0) (.node (tzu) tzx93 (.node (.tuple #[tzs 34 2, tzi 0]) (.node (.agg #[tzi 0, tzi 2]) .leaf .leaf) .leaf)) (.node (tzu) (.node (tzs 1 2) (.node (.agg #[tzi 2, tzi 4]) .leaf .leaf) .leaf) tzx12))) (.node (tzs 34 2) (.node (tzs 55 2) (.node (tzu) tzx24 tzx10) (.node (tzu) tzx11 tzx73)) (.node (tzi 0) tzx126 (.node (tzu) (.node (.tuple #[tzs 17 1, tzi 0]) (.node (tzs 53 2) .leaf .leaf) .leaf) tzx75)))) (.node (tzs 2 1) (.node (tzi 0) (.node (tzi 0) (.node (tzu) tzx40 (.node (.tuple #[tzs 34 2, tzi 0]) (.node (.bool false) .leaf .leaf) .leaf)) (.node (tzu) (.node (.agg #[tzi 2, tzi 7]) (.node (.bool false) .leaf .leaf) .leaf) tzx11)) (.node (tzp 110 0) (.node (tzu) tzx53 (.node (tzs 34 2) (.node (.agg #[tzi 7, tzi 9]) .leaf .leaf) .leaf)) (.node (tzu) (.node (tzs 2 1) (.node (.agg #[tzi 6, tzi 7]) .leaf .leaf) .leaf) tzx36))) (.node (tzi 0) (.node (tzs 62 7) (.node (tzu) tzx95 (.node (tzs 2 1) (.node (tzs 51 2) .leaf .leaf) .leaf)) (.node (tzu) (.node (.tuple #[tzs 17 1, tzi 0]) (.node (tzs 34 2) .leaf .leaf) .leaf) tzx59)) (.node (tzu) tzx120 (.node (tzu) (.node (tzs 17 1) (.node (.bool true) .leaf .leaf) .leaf) tzx12)))))
noncomputable def tzF9 : Fr := ⟨tzT9, 304, []⟩
noncomputable def tzO9_0 : List (Nat × AObj) := [(110, .row 65 [tzq0, tzi 10, tzs 95 7, tzs 109 2] true false), (109, .row 39 [tzi 2, tzi 4, tzi 5, tzi 6] true true), (108, .row 39 [tzi 5, tzi 6] true false), (107, .row 39 [tzi 5, tzi 6] true false), (106, .row 39 [tzi 3, tzi 4] true false), (104, .row 39 [tzi 2, tzi 3] true false), (103, .row 39 [tzi 2, tzi 3] true false), (102, .row 39 [tzi 2, tzi 3, tzi 3, tzi 4, tzi 5, tzi 6] true true), (101, .row 39 [tzi 5, tzi 6] true false), (99, .row 39 [tzi 3, tzi 4] true false), (97, .row 39 [tzi 2, tzi 3] true false), (96, .row 65 [tzq0, tzi 10, tzs 95 7, tzs 109 2] true false), (95, .row 59 [.float .f32 1065353216, .float .f32 1065353216, .float .f32 0, .float .f32 0, .float .f32 1069547520, .float .f32 0, .float .f32 1073741824] true false), (94, .row 65 [tzq0, tzi 10, tzs 95 7, tzs 109 2] true false), (93, .row 65 [tzq0, tzi 10, tzs 75 7, tzs 76 1] true false), (92, .row 4 [.bool true, .bool true, .bool true, .bool false, .bool true, .bool false, .bool true] true true), (91, .row 4 [] true false), (90, .row 126 [tzq3, tzi 2, tzi 0] true false), (89, .row 4 [.bool true, .bool true, .bool true, .bool true, .bool true, .bool false, .bool true] true true), (88, .row 4 [] true false), (87, .row 126 [tzq4, tzi 16, tzi 0] true false), (86, .mapo [⟨tzq5, .agg #[.func (.func 138) #[] #[], .func (.func 139) #[] #[]], 0⟩, ⟨tzq4, .agg #[.func (.func 140) #[] #[], .func (.func 141) #[] #[]], 1⟩, ⟨tzq3, .agg #[.func (.func 142) #[] #[], .func (.func 143) #[] #[]], 2⟩] 3), (85, .row 39 [tzi 5, tzi 6] true false), (84, .row 4 [.bool true, .bool true, .bool false, .bool false, .bool true, .bool false, .bool true] true false), (83, .row 4 [.bool true] true false), (82, .row 65 [tzq0, tzi 10, tzs 75 7, tzs 76 1] true false), (81, .row 3 [tzi 0, tzi 0, tzi 2, tzi 1, tzi 0, tzi 0, tzi 0] true false), (80, .row 65 [tzq0, tzi 10, tzs 75 7, tzs 76 1] true false), (79, .row 29 [tzi 0, tzi 0] true false), (78, .row 65 [tzq0, tzi 10, tzs 95 7, tzs 109 2] true false), (77, .row 65 [tzq0, tzi 10, tzs 75 7, tzs 76 1] true false), (76, .row 39 [tzi 5, tzi 6] true false), (75, .row 59 [.float .f32 1065353216, .float .f32 1065353216, .float .f32 1065353216, .float .f32 1084227584, .float .f32 1069547520, .float .f32 0, .float .f32 1073741824] true false), (74, .row 65 [tzq0, tzi 10, tzs 75 7, tzs 76 1] true false), (73, .row 4 [.bool true, .bool true, .bool true, .bool false, .bool true, .bool false, .bool true] true true), (72, .row 4 [] true false), (71, .row 126 [tzq3, tzi 2, tzi 0] true false), (70, .row 4 [.bool true, .bool true, .bool true, .bool true, .bool true, .bool false, .bool true] true true), (69, .row 4 [] true false), (68, .row 126 [tzq4, tzi 16, tzi 0] true false)]
noncomputable def tzO9_1 : List (Nat × AObj) := [(67, .mapo [⟨tzq5, .agg #[.func (.func 138) #[] #[], .func (.func 139) #[] #[]], 0⟩, ⟨tzq4, .agg #[.func (.func 140) #[] #[], .func (.func 141) #[] #[]], 1⟩, ⟨tzq3, .agg #[.func (.func 142) #[] #[], .func (.func 143) #[] #[]], 2⟩] 3), (66, .row 39 [tzi 5, tzi 6] true false), (65, .row 4 [.bool true, .bool true, .bool false, .bool false, .bool true, .bool false, .bool true] true false), (64, .row 4 [.bool true] true false), (63, .row 65 [tzq0, tzi 10, tzs 57 7, tzs 58 1] true false), (62, .row 3 [tzi 0, tzi 0, tzi 2, tzi 1, tzi 0, tzi 0, tzi 0] true false), (61, .row 65 [tzq0, tzi 10, tzs 57 7, tzs 58 1] true false), (60, .row 29 [tzi 0, tzi 0] true false), (59, .row 65 [tzq0, tzi 10, tzs 57 7, tzs 58 1] true false), (58, .row 39 [tzi 5, tzi 6] true false), (57, .row 59 [.float .f32 1065353216, .float .f32 1065353216, .float .f32 1065353216, .float .f32 1084227584, .float .f32 1069547520, .float .f32 0, .float .f32 1073741824] true false), (56, .row 65 [tzq0, tzi 10, tzs 57 7, tzs 58 1] true false), (55, .row 126 [tzq4, tzi 16, tzi 0, tzq3, tzi 2, tzi 0] true false), (54, .row 39 [tzi 0, tzi 2, tzi 7, tzi 9] true false), (53, .row 39 [tzi 2, tzi 4, tzi 6, tzi 7] true false), (52, .row 39 [tzi 0, tzi 9] true false), (51, .row 39 [tzi 0, tzi 2, tzi 7, tzi 9] true true), (50, .row 39 [tzi 7, tzi 9] true false), (48, .row 39 [tzi 0, tzi 2] true false), (47, .row 199 [tzi 0, tzi 1, tzi 2, tzi 2, tzi 4, tzi (-1), tzi 6, tzi 1, tzi 7, tzi (-2), tzi 9, tzi (-1)] true true), (46, .row 196 [tzs 42 4, tzs 45 2] true false), (45, .row 199 [tzi 2, tzi 2, tzi 7, tzi (-2)] true true), (44, .row 199 [tzi 2, tzi 2, tzi 7, tzi (-2)] true false), (43, .row 39 [tzi 2, tzi 7] true false), (42, .row 199 [tzi 0, tzi 1, tzi 4, tzi (-1), tzi 6, tzi 1, tzi 9, tzi (-1)] true true), (41, .row 199 [tzi 6, tzi 1, tzi 9, tzi (-1)] true false), (40, .row 39 [tzi 6, tzi 9] true false), (38, .row 199 [tzi 0, tzi 1, tzi 4, tzi (-1)] true false), (37, .row 39 [tzi 0, tzi 4] true false), (36, .row 29 [tzi 0, tzi 0] true false), (35, .row 133 [.bool false, .bool true, .bool false, .bool false] true false), (34, .row 39 [tzi 2, tzi 4, tzi 6, tzi 7] true true), (33, .row 39 [tzi 6, tzi 7] true false), (31, .row 39 [tzi 2, tzi 4] true false), (30, .row 199 [tzi 0, tzi 1, tzi 2, tzi 2, tzi 4, tzi (-1), tzi 6, tzi 1, tzi 7, tzi (-2), tzi 9, tzi (-1)] true true), (29, .row 196 [tzs 25 4, tzs 28 2] true false), (28, .row 199 [tzi 2, tzi 2, tzi 7, tzi (-2)] true true), (27, .row 199 [tzi 2, tzi 2, tzi 7, tzi (-2)] true false), (26, .row 39 [tzi 2, tzi 7] true false), (25, .row 199 [tzi 0, tzi 1, tzi 4, tzi (-1), tzi 6, tzi 1, tzi 9, tzi (-1)] true true)]
noncomputable def tzO9_2 : List (Nat × AObj) := [(24, .row 199 [tzi 6, tzi 1, tzi 9, tzi (-1)] true false), (23, .row 39 [tzi 6, tzi 9] true false), (21, .row 199 [tzi 0, tzi 1, tzi 4, tzi (-1)] true false), (20, .row 39 [tzi 0, tzi 4] true false), (19, .row 29 [tzi 0, tzi 0] true false), (18, .row 133 [.bool false, .bool false, .bool false, .bool true] true false), (17, .row 39 [tzi 0, tzi 9] true true), (16, .row 39 [tzi 0, tzi 9] true false), (15, .row 199 [tzi 0, tzi 1, tzi 2, tzi 2, tzi 4, tzi (-1), tzi 6, tzi 1, tzi 7, tzi (-2), tzi 9, tzi (-1)] true true), (14, .row 196 [tzs 10 4, tzs 13 2] true false), (13, .row 199 [tzi 2, tzi 2, tzi 7, tzi (-2)] true true), (12, .row 199 [tzi 2, tzi 2, tzi 7, tzi (-2)] true false), (11, .row 39 [tzi 2, tzi 7] true false), (10, .row 199 [tzi 0, tzi 1, tzi 4, tzi (-1), tzi 6, tzi 1, tzi 9, tzi (-1)] true true), (9, .row 199 [tzi 6, tzi 1, tzi 9, tzi (-1)] true false), (8, .row 39 [tzi 6, tzi 9] true false), (6, .row 199 [tzi 0, tzi 1, tzi 4, tzi (-1)] true false), (5, .row 39 [tzi 0, tzi 4] true false), (4, .row 29 [tzi 0, tzi 0] true false), (3, .row 133 [.bool false, .bool true, .bool true, .bool true] true false), (2, .row 39 [tzi 2, tzi 7] true false), (1, .row 39 [tzi 0, tzi 4, tzi 6, tzi 9] true false)]
noncomputable def tzL9 : List (Nat × AObj) := tzO9_0 ++ tzO9_1 ++ tzO9_2
noncomputable def tzH9 : Heap := ⟨111, 1, tzL9⟩
noncomputable def tzT11 : Tr := (.node (.bool false) (.node (tzs 1 2) (.node (tzs 17 1) (.node (tzs 51 2) (.node (tzi 0) tzx55 (.node (tzi 0) (.node (.bool false) .leaf .leaf) tzx82)) tzx92) (.node (tzi 0) (.node (tzu) tzx93 (.node (.tuple #[tzs 34 2, tzi 0]) (.node (.agg #[tzi 0, tzi 2]) .leaf .leaf) (.node (tzs 141 1) .leaf .leaf))) (.node (tzu) (.node (tzs 1 2) (.node (.agg #[tzi 2, tzi 4]) .leaf .leaf) (.node (tzs 114 1) .leaf .leaf)) tzx12))) (.node (tzs 34 2) (.node (tzs 55 2) (.node (tzs 141 1) tzx24 (.node (tzs 1 2) (.node (.bool false) .leaf .leaf) tzx82)) (.node (tzu) (.node (tzs 2 1) (.node (.bool false) .leaf .leaf) (.node (.agg #[tzq0, tzi 10, tzs 112 7, tzs 113 1]) .leaf .leaf)) tzx73)) (.node (tzi 0) tzx126 (.node (tzu) (.node (.tuple #[tzs 17 1, tzi 0]) (.node (tzs 53 2) .leaf .leaf) (.node (tzs 118 7) .leaf .leaf)) tzx75)))) (.node (tzs 2 1) (.node (tzi 0) (.node (tzi 0) (.node (tzp 146 0) tzx40 (.node (.tuple #[tzs 34 2, tzi 0]) (.node (.bool false) .leaf .leaf) (.node (.agg #[tzq0, tzi 10, tzs 128 7, tzs 129 1]) .leaf .leaf))) (.node (tzu) (.node (.agg #[tzi 2, tzi 7]) (.node (.bool false) .leaf .leaf) tzx5) tzx11)) (.node (tzp 110 0) (.node (tzu) tzx53 (.node (tzs 34 2) (.node (.agg #[tzi 7, tzi 9]) .leaf .leaf) (.node (tzi 0) .leaf .leaf))) (.node (tzu) (.node (tzs 2 1) (.node (.agg #[tzi 6, tzi 7]) .leaf .leaf) tzx5) tzx36))) (.node (tzi 0) (.node (tzs 62 7) (.node (tzi 0) tzx95 (.node (tzs 2 1) (.node (tzs 51 2) .leaf .leaf) (.node (.agg #[tzq0, tzi 10, tzs 144 7, tzn]) .leaf .leaf))) (.node (tzu) (.node (.tuple #[tzs 17 1, tzi 0]) (.node (tzs 34 2) .leaf .leaf) (.node (.agg #[tzq5, tzi 0, tzi 48]) .leaf .leaf)) tzx59)) (.node (tzs 118 7) tzx120 (.node (tzu) (.node (tzs 17 1) (.node (.bool true) .leaf .leaf) (.node (tzi 0) .leaf .leaf)) tzx12)))))
noncomputable def tzF11 : Fr := ⟨tzT11, 304, []⟩
noncomputable def tzO11_0 : List (Nat × AObj) := [(146, .row 65 [tzq0, tzi 10, tzs 144 7, tzn] true false), (145, .row 65 [tzq0, tzi 10, tzs 144 7, tzn] true false), (144, .row 59 [.float .f32 1065353216, .float .f32 1065353216, .float .f32 1065353216, .float .f32 1084227584, .float .f32 1069547520, .float .f32 1069547520, .float .f32 1073741824] true false), (143, .row 65 [tzq0, tzi 10, tzs 144 7, tzn] true false), (142, .row 65 [tzq0, tzi 10, tzs 138 7, tzs 129 1] true false), (141, .row 39 [tzi 5, tzi 6] true true), (140, .row 39 [tzi 5, tzi 6] true false), (139, .row 39 [tzi 5, tzi 6] true false), (138, .row 59 [.float .f32 1065353216, .float .f32 1065353216, .float .f32 1065353216, .float .f32 1084227584, .float .f32 1069547520, .float .f32 1069547520, .float .f32 1073741824] true true), (137, .row 59 [] true false), (136, .row 39 [tzi 5, tzi 6] true false), (135, .row 4 [.bool true, .bool true, .bool true, .bool true, .bool true, .bool true, .bool true] true false), (134, .row 4 [.bool true] true false), (133, .row 65 [tzq0, tzi 10, tzs 128 7, tzs 129 1] true false), (132, .row 29 [tzi 0, tzi 0] true false), (131, .row 65 [tzq0, tzi 10, tzs 144 7, tzn] true false), (130, .row 65 [tzq0, tzi 10, tzs 138 7, tzs 129 1] true false), (129, .row 39 [tzi 5, tzi 6] true false), (128, .row 59 [.float .f32 1065353216, .float .f32 1065353216, .float .f32 1065353216, .float .f32 1084227584, .float .f32 1069547520, .float .f32 0, .float .f32 1073741824] true false), (127, .row 65 [tzq0, tzi 10, tzs 128 7, tzs 129 1] true false), (126, .row 4 [.bool true, .bool true, .bool true, .bool true, .bool true, .bool false, .bool true] true true), (125, .row 4 [] true false), (124, .row 126 [tzq5, tzi 0, tzi 48] true false), (123, .mapo [⟨tzq5, .agg #[.func (.func 138) #[] #[], .func (.func 139) #[] #[]], 0⟩, ⟨tzq4, .agg #[.func (.func 140) #[] #[], .func (.func 141) #[] #[]], 1⟩, ⟨tzq3, .agg #[.func (.func 142) #[] #[], .func (.func 143) #[] #[]], 2⟩] 3), (122, .row 39 [tzi 5, tzi 6] true false), (121, .row 4 [.bool true, .bool true, .bool true, .bool false, .bool true, .bool false, .bool true] true false), (120, .row 4 [.bool true] true false), (119, .row 65 [tzq0, tzi 10, tzs 112 7, tzs 113 1] true false), (118, .row 3 [tzi 0, tzi 0, tzi 0, tzi 1, tzi 0, tzi 0, tzi 0] true false), (117, .row 65 [tzq0, tzi 10, tzs 112 7, tzs 113 1] true false), (116, .row 29 [tzi 0, tzi 0] true false), (115, .row 65 [tzq0, tzi 10, tzs 112 7, tzs 113 1] true false), (114, .row 126 [tzq5, tzi 0, tzi 48] true false), (113, .row 39 [tzi 5, tzi 6] true false), (112, .row 59 [.float .f32 1065353216, .float .f32 1065353216, .float .f32 1065353216, .float .f32 1084227584, .float .f32 1069547520, .float .f32 0, .float .f32 1073741824] true false), (111, .row 65 [tzq0, tzi 10, tzs 112 7, tzs 113 1] true false)]
noncomputable def tzL11 : List (Nat × AObj) := tzO11_0 ++ tzL9
noncomputable def tzH11 : Heap := ⟨147, 1, tzL11⟩
noncomputable def tzT14 : Tr := (.node (.bool false) (.node (tzs 1 2) (.node (tzs 17 1) (.node (tzs 51 2) (.node (tzi 0) (.node (tzu) (.node (tzi 0) (.node (tzs 147 7) .leaf .leaf) .leaf) tzx37) tzx113) (.node (tzu) (.node (tzs 1 2) (.node (.bool false) (.node (.agg #[tzi 5, tzi 6]) .leaf .leaf) .leaf) tzx18) tzx130)) (.node (tzi 0) (.node (tzs 151 1) (.node (tzu) (.node (tzs 17 1) (.node (.bool false) .leaf .leaf) .leaf) tzx76) tzx119) (.node (tzu) tzx91 tzx83))) (.node (tzs 34 2) (.node (tzs 55 2) (.node (tzs 141 1) (.node (tzu) tzx0 tzx2) tzx118) (.node (tzu) (.node (tzs 2 1) (.node (.bool false) (.node (.bool true) .leaf .leaf) .leaf) tzx78) tzx124)) (.node (tzi 0) (.node (tzp 241 0) (.node (.agg #[tzi 0, tzi 4]) (.node (tzs 52 1) (.node (tzs 109 2) .leaf .leaf) .leaf) tzx86) tzx84) (.node (tzu) tzx107 (.node (tzi 0) tzx77 (.node (.bool false) .leaf .leaf)))))) (.node (tzs 2 1) (.node (tzi 0) (.node (tzi 0) (.node (tzp 146 0) (.node (tzu) (.node (tzi 0) (.node (.bool true) .leaf .leaf) .leaf) tzx30) tzx128) (.node (tzu) (.node (.agg #[tzi 2, tzi 7]) (.node (.bool false) (.node (tzs 148 2) .leaf .leaf) .leaf) tzx49) tzx116)) (.node (tzp 110 0) (.node (tzp 240 0) (.node (tzu) (.node (.agg #[tzi 0, tzi 9]) (.node (tzp 110 3) .leaf .leaf) .leaf) tzx15) tzx98) (.node (tzu) tzx104 (.node (tzi 0) tzx44 (.node (.bool false) .leaf .leaf))))) (.node (tzi 0) (.node (tzs 62 7) (.node (tzi 0) (.node (tzu) tzx0 tzx87) tzx111) (.node (tzu) (.node (.tuple #[tzs 17 1, tzi 0]) (.node (tzs 34 2) (.node (.bool false) .leaf .leaf) .leaf) tzx45) tzx108)) (.node (tzs 118 7) (.node (tzi 0) (.node (.agg #[tzi 6, tzi 9]) (.node (.bool true) (.node (.agg #[tzi 2, tzi 4]) .leaf .leaf) .leaf) tzx85) tzx109) (.node (tzu) tzx123 (.node (tzi 0) tzx15 (.node (tzs 62 7) .leaf .leaf)))))))
noncomputable def tzF14 : Fr := ⟨tzT14, 304, []⟩
noncomputable def tzO14_0 : List (Nat × AObj) := [(241, .row 85 [tzi 0, tzi 0, tzi 1] true false), (240, .row 65 [tzq2, tzi 0, tzs 233 3, tzs 239 1] true false), (239, .row 39 [tzi 2, tzi 3] true true), (238, .row 39 [tzi 2, tzi 3] true false), (237, .row 39 [tzi 2, tzi 3] true false), (236, .row 39 [tzi 2, tzi 3] true true), (235, .row 39 [tzi 2, tzi 3] true false), (234, .row 65 [tzq2, tzi 0, tzs 233 3, tzs 239 1] true false), (233, .row 59 [.float .f32 1065353216, .float .f32 1077936128, .float .f32 0] true false), (232, .row 65 [tzq2, tzi 0, tzs 233 3, tzs 239 1] true false), (231, .row 65 [tzq2, tzi 0, tzs 225 3, tzn] true false), (230, .row 65 [tzq7, tzi 0, tzs 154 3, tzs 151 1] true false), (229, .row 65 [tzq6, tzi 0, tzs 153 3, tzs 151 1] true false), (228, .row 65 [tzq2, tzi 0, tzs 152 3, tzn] true false), (227, .row 4 [.bool true, .bool true, .bool false] true true), (226, .row 4 [.bool false] true false), (225, .row 59 [.float .f32 1065353216, .float .f32 1077936128, .float .f32 0] true true), (224, .row 59 [.float .f32 0] true false), (223, .row 65 [tzq7, tzi 0, tzs 154 3, tzs 151 1] true false), (222, .row 65 [tzq6, tzi 0, tzs 153 3, tzs 151 1] true false), (221, .row 3 [tzi 48] true true), (220, .row 3 [tzi 48] true false), (219, .row 65 [tzq2, tzi 0, tzs 152 3, tzn] true false), (218, .row 65 [tzq7, tzi 0, tzs 154 3, tzs 151 1] true false), (217, .row 65 [tzq6, tzi 0, tzs 153 3, tzs 151 1] true false), (216, .row 65 [tzq2, tzi 0, tzs 152 3, tzn] true false), (214, .row 4 [.bool true] true false), (212, .row 59 [.float .f32 1077936128] true false), (211, .row 3 [tzi 32, tzi 48, tzi 64] true true), (210, .row 3 [tzi 48] true false), (209, .row 65 [tzq7, tzi 0, tzs 154 3, tzs 151 1] true false), (207, .row 3 [tzi 64] true false), (206, .row 65 [tzq6, tzi 0, tzs 153 3, tzs 151 1] true false), (204, .row 3 [tzi 32] true false), (203, .row 65 [tzq2, tzi 0, tzs 152 3, tzn] true false), (202, .row 65 [tzq7, tzi 0, tzs 154 3, tzs 151 1] true false), (201, .row 65 [tzq6, tzi 0, tzs 153 3, tzs 151 1] true false), (200, .row 65 [tzq2, tzi 0, tzs 152 3, tzn] true false), (198, .row 4 [.bool true] true false), (196, .row 59 [.float .f32 1065353216] true false)]
noncomputable def tzO14_1 : List (Nat × AObj) := [(195, .row 3 [tzi 16, tzi 16, tzi 48] true true), (194, .row 3 [tzi 48] true false), (193, .row 65 [tzq7, tzi 0, tzs 154 3, tzs 151 1] true false), (191, .row 3 [tzi 16] true false), (190, .row 65 [tzq6, tzi 0, tzs 153 3, tzs 151 1] true false), (188, .row 3 [tzi 16] true false), (187, .row 65 [tzq2, tzi 0, tzs 152 3, tzn] true false), (186, .row 85 [tzi 0, tzi 0, tzi 1] true false), (185, .row 65 [tzq2, tzi 0, tzs 225 3, tzn] true false), (184, .row 167 [tzs 175 3, tzs 178 3, tzs 182 3] true false), (183, .row 39 [tzi 2, tzi 3] true false), (182, .row 4 [.bool true, .bool true, .bool false] true false), (181, .row 4 [.bool true] true false), (180, .row 65 [tzq7, tzi 0, tzs 154 3, tzs 151 1] true false), (179, .row 39 [tzi 2, tzi 3] true false), (178, .row 4 [.bool true, .bool true, .bool false] true false), (177, .row 4 [.bool true] true false), (176, .row 65 [tzq6, tzi 0, tzs 153 3, tzs 151 1] true false), (175, .row 4 [.bool true, .bool true, .bool true] true false), (174, .row 4 [.bool true] true false), (173, .row 65 [tzq2, tzi 0, tzs 152 3, tzn] true false), (172, .row 65 [tzq7, tzi 0, tzs 154 3, tzs 151 1] true false), (171, .row 65 [tzq6, tzi 0, tzs 153 3, tzs 151 1] true false), (170, .row 65 [tzq2, tzi 0, tzs 152 3, tzn] true false), (169, .row 85 [tzi 0, tzi 0, tzi 0] true false), (168, .row 85 [tzi 0, tzi 0, tzi 0] true false), (167, .row 29 [tzi 0, tzi 0] true false), (166, .row 29 [tzi 0, tzi 0, tzi 0] true true), (165, .row 29 [tzi 0] true false), (164, .row 65 [tzq7, tzi 0, tzs 154 3, tzs 151 1] true false), (162, .row 29 [tzi 0] true false), (161, .row 65 [tzq6, tzi 0, tzs 153 3, tzs 151 1] true false), (159, .row 29 [tzi 0] true false), (158, .row 65 [tzq2, tzi 0, tzs 152 3, tzn] true false), (157, .row 85 [tzi 0, tzi 0, tzi 1] true false), (156, .row 65 [tzq2, tzi 0, tzs 233 3, tzs 239 1] true false), (155, .row 88 [tzq2, tzi 0, tzs 152 3, tzn, tzq6, tzi 0, tzs 153 3, tzs 151 1, tzq7, tzi 0, tzs 154 3, tzs 151 1] true false), (154, .row 59 [.float .f32 1077936128, .float .f32 1077936128, .float .f32 0] true false), (153, .row 59 [.float .f32 1065353216, .float .f32 1082130432, .float .f32 0] true false), (152, .row 59 [.float .f32 1065353216, .float .f32 1073741824, .float .f32 1077936128] true false)]
noncomputable def tzO14_2 : List (Nat × AObj) := [(151, .row 39 [tzi 2, tzi 3] true false), (150, .row 39 [tzi 5, tzi 6] true false), (149, .row 3 [tzi 0, tzi 0, tzi 0, tzi 1, tzi 0, tzi 0, tzi 0] true false), (148, .row 39 [tzi 2, tzi 4, tzi 5, tzi 6] true false), (147, .row 3 [tzi 0, tzi 0, tzi 2, tzi 1, tzi 0, tzi 0, tzi 0] true false)]
noncomputable def tzL14 : List (Nat × AObj) := tzO14_0 ++ tzO14_1 ++ tzO14_2 ++ tzL11
noncomputable def tzH14 : Heap := ⟨242, 1, tzL14⟩
noncomputable def tzT17 : Tr := (.node (.bool false) (.node (tzs 1 2) (.node (tzs 17 1) (.node (tzs 51 2) (.node (tzi 0) (.node (tzu) tzx56 tzx37) tzx113) (.node (tzs 268 3) tzx121 tzx130)) (.node (tzi 0) (.node (tzs 151 1) tzx122 tzx119) (.node (tzs 318 3) tzx91 tzx83))) (.node (tzs 34 2) (.node (tzs 55 2) (.node (tzs 141 1) (.node (tzu) tzx57 tzx2) tzx118) (.node (tzs 291 1) tzx114 tzx124)) (.node (tzi 0) (.node (tzp 241 0) tzx127 tzx84) (.node (tzu) tzx107 tzx125)))) (.node (tzs 2 1) (.node (tzi 0) (.node (tzi 0) (.node (tzp 146 0) (.node (tzu) tzx26 tzx30) tzx128) (.node (tzi 0) tzx115 tzx116)) (.node (tzp 110 0) (.node (tzp 240 0) tzx105 tzx98) (.node (tzi 0) tzx104 tzx102))) (.node (tzi 0) (.node (tzs 62 7) (.node (tzi 0) (.node (tzu) tzx89 tzx87) tzx111) tzx131) (.node (tzs 118 7) (.node (tzi 0) tzx129 tzx109) (.node (tzu) tzx123 tzx99)))))
noncomputable def tzF17 : Fr := ⟨tzT17, 304, []⟩
noncomputable def tzO17_0 : List (Nat × AObj) := [(318, .row 3 [tzi 0, tzi 4, tzi 6] true true), (317, .row 3 [tzi 6] true false), (315, .row 3 [tzi 4] true false), (313, .row 3 [tzi 0] true false), (312, .row 39 [tzi 5, tzi 6] true false), (311, .row 4 [.bool true, .bool true, .bool true, .bool true, .bool true, .bool false, .bool true] true false), (310, .row 4 [.bool true] true false), (309, .row 65 [tzq0, tzi 10, tzs 293 7, tzs 294 1] true false), (308, .loopo .exhausted none (.node (.agg #[tzq0, tzi 10, tzs 293 7, tzs 294 1]) (.node (tzi 1) (.node (tzp 296 0) (.node (tzi 0) .leaf (.node (.bool false) .leaf .leaf)) (.node (tzu) (.node (tzi 0) .leaf .leaf) (.node (.agg #[tzq0, tzi 10, tzs 293 7, tzs 294 1]) .leaf .leaf))) (.node (tzp 298 0) (.node (tzp 304 0) (.node (tzi 0) .leaf .leaf) (.node (.agg #[tzq0, tzi 10, tzs 293 7, tzs 294 1]) .leaf .leaf)) (.node (tzu) (.node (tzi 0) .leaf .leaf) .leaf))) (.node (.float .f32 3212836864) (.node (tzp 297 0) (.node (tzi 0) (.node (.agg #[tzq0, tzi 10, tzs 293 7, tzs 294 1]) .leaf .leaf) .leaf) (.node (tzu) (.node (tzs 299 2) .leaf .leaf) (.node (.func (.func 148) #[] #[tzp 306 0]) .leaf .leaf))) (.node (tzn) (.node (tzp 305 0) (.node (tzi 1) .leaf .leaf) (.node (tzs 302 7) .leaf .leaf)) (.node (tzu) (.node (tzi 0) .leaf .leaf) .leaf)))) 87 (rfIn Tryz.f111).1 (rfIn Tryz.f111).2.1 (rfIn Tryz.f111).2.2 307), (306, .row 65 [tzq0, tzi 10, tzs 293 7, tzs 294 1] true false), (305, .row 37 [tzs 318 3] true false), (304, .row 156 [tzs 302 7] true false), (303, .row 39 [tzi 5, tzi 6] true false), (302, .row 4 [.bool true, .bool true, .bool true, .bool true, .bool true, .bool false, .bool true] true false), (301, .row 4 [.bool true] true false), (300, .row 65 [tzq0, tzi 10, tzs 293 7, tzs 294 1] true false), (299, .row 29 [tzi 0, tzi 0] true false), (298, .row 59 [.float .f32 3212836864] true false), (297, .row 3 [tzi 1] true false), (296, .row 65 [tzq0, tzi 10, tzs 293 7, tzs 294 1] true false), (295, .row 65 [tzq0, tzi 10, tzs 293 7, tzs 294 1] true false), (294, .row 39 [tzi 5, tzi 6] true false), (293, .row 59 [.float .f32 1065353216, .float .f32 1065353216, .float .f32 1065353216, .float .f32 1084227584, .float .f32 1069547520, .float .f32 0, .float .f32 1073741824] true false), (292, .row 65 [tzq0, tzi 10, tzs 293 7, tzs 294 1] true false), (291, .row 3 [tzi 0] true true), (290, .row 3 [tzi 0] true false), (289, .row 39 [tzi 5, tzi 6] true false), (288, .row 4 [.bool true, .bool true, .bool true, .bool true, .bool true, .bool false, .bool true] true false), (287, .row 4 [.bool true] true false), (286, .row 65 [tzq0, tzi 10, tzs 270 7, tzs 271 1] true false), (285, .loopo .exhausted none (.node (.agg #[tzq0, tzi 10, tzs 270 7, tzs 271 1]) (.node (tzi 2) (.node (tzp 273 0) (.node (tzi 0) .leaf (.node (.bool false) .leaf .leaf)) (.node (tzu) (.node (tzi 0) .leaf .leaf) (.node (.agg #[tzq0, tzi 10, tzs 270 7, tzs 271 1]) .leaf .leaf))) (.node (tzp 275 0) (.node (tzp 281 0) (.node (tzi 0) .leaf .leaf) (.node (.agg #[tzq0, tzi 10, tzs 270 7, tzs 271 1]) .leaf .leaf)) (.node (tzu) (.node (tzi 0) .leaf .leaf) .leaf))) (.node (.float .f32 3212836864) (.node (tzp 274 0) (.node (tzi 0) (.node (.agg #[tzq0, tzi 10, tzs 270 7, tzs 271 1]) .leaf .leaf) .leaf) (.node (tzu) (.node (tzs 276 2) .leaf .leaf) (.node (.func (.func 148) #[] #[tzp 283 0]) .leaf .leaf))) (.node (tzn) (.node (tzp 282 0) (.node (tzi 2) .leaf .leaf) (.node (tzs 279 7) .leaf .leaf)) (.node (tzu) (.node (tzi 0) .leaf .leaf) .leaf)))) 87 (rfIn Tryz.f111).1 (rfIn Tryz.f111).2.1 (rfIn Tryz.f111).2.2 284), (283, .row 65 [tzq0, tzi 10, tzs 270 7, tzs 271 1] true false), (282, .row 37 [tzs 291 1] true false), (281, .row 156 [tzs 279 7] true false), (280, .row 39 [tzi 5, tzi 6] true false), (279, .row 4 [.bool true, .bool true, .bool true, .bool true, .bool true, .bool false, .bool true] true false), (278, .row 4 [.bool true] true false), (277, .row 65 [tzq0, tzi 10, tzs 270 7, tzs 271 1] true false), (276, .row 29 [tzi 0, tzi 0] true false), (275, .row 59 [.float .f32 3212836864] true false)]
noncomputable def tzO17_1 : List (Nat × AObj) := [(274, .row 3 [tzi 2] true false), (273, .row 65 [tzq0, tzi 10, tzs 270 7, tzs 271 1] true false), (272, .row 65 [tzq0, tzi 10, tzs 270 7, tzs 271 1] true false), (271, .row 39 [tzi 5, tzi 6] true false), (270, .row 59 [.float .f32 1065353216, .float .f32 1065353216, .float .f32 1065353216, .float .f32 1084227584, .float .f32 1069547520, .float .f32 0, .float .f32 1073741824] true false), (269, .row 65 [tzq0, tzi 10, tzs 270 7, tzs 271 1] true false), (268, .row 3 [tzi 0, tzi 3, tzi 6] true true), (267, .row 3 [tzi 6] true false), (265, .row 3 [tzi 3] true false), (263, .row 3 [tzi 0] true false), (262, .row 39 [tzi 5, tzi 6] true false), (261, .row 4 [.bool true, .bool true, .bool true, .bool true, .bool true, .bool false, .bool true] true false), (260, .row 4 [.bool true] true false), (259, .row 65 [tzq0, tzi 10, tzs 243 7, tzs 244 1] true false), (258, .loopo .exhausted none (.node (.agg #[tzq0, tzi 10, tzs 243 7, tzs 244 1]) (.node (tzi 2) (.node (tzp 246 0) (.node (tzi 0) .leaf (.node (.bool false) .leaf .leaf)) (.node (tzu) (.node (tzi 0) .leaf .leaf) (.node (.agg #[tzq0, tzi 10, tzs 243 7, tzs 244 1]) .leaf .leaf))) (.node (tzp 248 0) (.node (tzp 254 0) (.node (tzi 0) .leaf .leaf) (.node (.agg #[tzq0, tzi 10, tzs 243 7, tzs 244 1]) .leaf .leaf)) (.node (tzu) (.node (tzi 0) .leaf .leaf) .leaf))) (.node (.float .f32 1065353216) (.node (tzp 247 0) (.node (tzi 0) (.node (.agg #[tzq0, tzi 10, tzs 243 7, tzs 244 1]) .leaf .leaf) .leaf) (.node (tzu) (.node (tzs 249 2) .leaf .leaf) (.node (.func (.func 148) #[] #[tzp 256 0]) .leaf .leaf))) (.node (tzn) (.node (tzp 255 0) (.node (tzi 2) .leaf .leaf) (.node (tzs 252 7) .leaf .leaf)) (.node (tzu) (.node (tzi 0) .leaf .leaf) .leaf)))) 87 (rfIn Tryz.f111).1 (rfIn Tryz.f111).2.1 (rfIn Tryz.f111).2.2 257), (256, .row 65 [tzq0, tzi 10, tzs 243 7, tzs 244 1] true false), (255, .row 37 [tzs 268 3] true false), (254, .row 156 [tzs 252 7] true false), (253, .row 39 [tzi 5, tzi 6] true false), (252, .row 4 [.bool true, .bool true, .bool true, .bool true, .bool true, .bool false, .bool true] true false), (251, .row 4 [.bool true] true false), (250, .row 65 [tzq0, tzi 10, tzs 243 7, tzs 244 1] true false), (249, .row 29 [tzi 0, tzi 0] true false), (248, .row 59 [.float .f32 1065353216] true false), (247, .row 3 [tzi 2] true false), (246, .row 65 [tzq0, tzi 10, tzs 243 7, tzs 244 1] true false), (245, .row 65 [tzq0, tzi 10, tzs 243 7, tzs 244 1] true false), (244, .row 39 [tzi 5, tzi 6] true false), (243, .row 59 [.float .f32 1065353216, .float .f32 1065353216, .float .f32 1065353216, .float .f32 1084227584, .float .f32 1069547520, .float .f32 0, .float .f32 1073741824] true false), (242, .row 65 [tzq0, tzi 10, tzs 243 7, tzs 244 1] true false)]
noncomputable def tzL17 : List (Nat × AObj) := tzO17_0 ++ tzO17_1 ++ tzL14
noncomputable def tzH17 : Heap := ⟨319, 1, tzL17⟩
noncomputable def tzT20 : Tr := (.node (.bool false) (.node (tzs 1 2) (.node (tzs 17 1) (.node (tzs 51 2) (.node (tzi 0) (.node (tzp 349 0) tzx56 tzx37) (.node (tzi 0) (.node (.bool false) (.node (.bool true) .leaf .leaf) (.node (tzi 0) .leaf .leaf)) tzx100)) (.node (tzs 268 3) tzx121 (.node (tzs 1 2) (.node (.bool false) (.node (.bool false) .leaf .leaf) tzx90) tzx117))) (.node (tzi 0) (.node (tzs 151 1) tzx122 (.node (.tuple #[tzs 34 2, tzi 0]) (.node (.agg #[tzi 0, tzi 2]) (.node (tzp 146 2) .leaf .leaf) (.node (.agg #[tzi 6, tzi 184, .float .f32 1065353216, .float .f32 1084227584]) .leaf .leaf)) tzx80)) (.node (tzs 318 3) (.node (tzs 1 2) (.node (.agg #[tzi 2, tzi 4]) (.node (.bool false) .leaf .leaf) tzx9) tzx20) tzx83))) (.node (tzs 34 2) (.node (tzs 55 2) (.node (tzs 141 1) (.node (tzq1) tzx57 tzx2) (.node (tzs 1 2) (.node (.bool false) (.node (.bool false) .leaf .leaf) (.node (.agg #[tzq0, tzi 10, tzs 347 7, tzs 348 1]) .leaf .leaf)) tzx101)) (.node (tzs 291 1) tzx114 (.node (.tuple #[tzs 51 2, tzi 0]) (.node (.agg #[tzq4, tzi 16, tzi 0]) (.node (tzp 146 2) .leaf .leaf) (.node (tzi 0) .leaf .leaf)) tzx70))) (.node (tzi 0) (.node (tzp 241 0) tzx127 (.node (tzi 0) (.node (tzs 54 2) (.node (tzi 7) .leaf .leaf) tzx90) tzx21)) (.node (tzs 345 2) (.node (.tuple #[tzs 17 1, tzi 0]) (.node (tzs 53 2) (.node (tzs 118 7) .leaf .leaf) tzx9) tzx34) tzx125)))) (.node (tzs 2 1) (.node (tzi 0) (.node (tzi 0) (.node (tzp 146 0) (.node (tzi 0) tzx26 tzx30) (.node (.tuple #[tzs 34 2, tzi 0]) (.node (.bool false) (.node (.bool false) .leaf .leaf) tzx52) tzx103)) (.node (tzi 0) tzx115 (.node (tzs 2 1) (.node (.bool false) (.node (.bool false) .leaf .leaf) (.node (tzq1) .leaf .leaf)) tzx97))) (.node (tzp 110 0) (.node (tzp 240 0) tzx105 (.node (tzs 34 2) (.node (.agg #[tzi 7, tzi 9]) (.node (tzs 144 7) .leaf .leaf) (.node (tzi 0) .leaf .leaf)) tzx22)) (.node (tzi 0) (.node (tzs 2 1) (.node (.agg #[tzi 6, tzi 7]) (.node (.bool false) .leaf .leaf) (.node (.agg #[tzq0, tzi 10, tzs 320 7, tzs 321 1]) .leaf .leaf)) tzx50) tzx102))) (.node (tzi 0) (.node (tzs 62 7) (.node (tzi 0) (.node (tzi 0) tzx89 tzx87) (.node (tzs 2 1) (.node (tzs 51 2) (.node (.bool false) .leaf .leaf) tzx52) tzx81)) tzx131) (.node (tzs 118 7) (.node (tzi 0) tzx129 (.node (.tuple #[tzs 51 2, tzi 0]) (.node (.bool true) (.node (.bool false) .leaf .leaf) (.node (.agg #[tzq0, tzi 10, tzs 351 7, tzs 352 1]) .leaf .leaf)) tzx71)) (.node (tzi 0) (.node (tzs 17 1) (.node (.bool true) (.node (tzs 149 7) .leaf .leaf) (.node (tzs 345 2) .leaf .leaf)) tzx97) tzx99)))))
noncomputable def tzF20 : Fr := ⟨tzT20, 304, []⟩
noncomputable def tzO20_0 : List (Nat × AObj) := [(352, .row 39 [tzi 5, tzi 6] true false), (351, .row 59 [.float .f32 1065353216, .float .f32 1065353216, .float .f32 1065353216, .float .f32 1084227584, .float .f32 1069547520, .float .f32 0, .float .f32 1073741824] true false), (350, .row 65 [tzq0, tzi 10, tzs 351 7, tzs 352 1] true false), (349, .row 95 [tzi 6, tzi 184, .float .f32 1065353216, .float .f32 1084227584] true false), (348, .row 39 [tzi 5, tzi 6] true false), (347, .row 59 [.float .f32 1065353216, .float .f32 1065353216, .float .f32 1065353216, .float .f32 1084227584, .float .f32 1069547520, .float .f32 0, .float .f32 1073741824] true false), (346, .row 65 [tzq0, tzi 10, tzs 347 7, tzs 348 1] true false), (345, .row 39 [tzi 3, tzi 5, tzi 6, tzi 7] true true), (344, .row 39 [tzi 6, tzi 7] true false), (343, .row 39 [tzi 6, tzi 7] true false), (342, .row 39 [tzi 4, tzi 5] true false), (340, .row 39 [tzi 3, tzi 4] true false), (339, .row 39 [tzi 3, tzi 4] true false), (338, .row 39 [tzi 3, tzi 4, tzi 4, tzi 5, tzi 6, tzi 7] true true), (337, .row 39 [tzi 6, tzi 7] true false), (335, .row 39 [tzi 4, tzi 5] true false), (333, .row 39 [tzi 3, tzi 4] true false), (332, .row 39 [tzi 5, tzi 6] true false), (331, .row 4 [.bool true, .bool true, .bool true, .bool true, .bool true, .bool false, .bool true] true false), (330, .row 4 [.bool true] true false), (329, .row 65 [tzq0, tzi 10, tzs 320 7, tzs 321 1] true false), (328, .loopo .exhausted none (.node (.agg #[tzq0, tzi 10, tzs 320 7, tzs 321 1]) (.node (.float .f32 1065353216) (.node (tzp 323 0) (.node (tzp 325 0) (.node (tzi 0) .leaf .leaf) .leaf) (.node (tzi 0) (.node (.agg #[tzq0, tzi 10, tzs 320 7, tzs 321 1]) .leaf .leaf) .leaf)) (.node (tzi 0) (.node (tzu) (.node (.bool false) .leaf .leaf) .leaf) (.node (tzi 0) .leaf .leaf))) (.node (tzp 322 0) (.node (tzn) (.node (tzu) (.node (tzi 0) .leaf .leaf) .leaf) (.node (.float .f32 1065353216) (.node (.func (.func 148) #[] #[tzp 326 0]) .leaf .leaf) .leaf)) (.node (tzi 0) (.node (.agg #[tzq0, tzi 10, tzs 320 7, tzs 321 1]) .leaf .leaf) (.node (tzs 324 2) .leaf .leaf)))) 35 (rfIn Tryz.f60).1 (rfIn Tryz.f60).2.1 (rfIn Tryz.f60).2.2 327), (326, .row 65 [tzq0, tzi 10, tzs 320 7, tzs 321 1] true false), (325, .row 22 [tzs 338 3] true false), (324, .row 29 [tzi 0, tzi 0] true false), (323, .row 59 [.float .f32 1065353216] true false), (322, .row 65 [tzq0, tzi 10, tzs 320 7, tzs 321 1] true false), (321, .row 39 [tzi 5, tzi 6] true false), (320, .row 59 [.float .f32 1065353216, .float .f32 1065353216, .float .f32 1065353216, .float .f32 1084227584, .float .f32 1069547520, .float .f32 0, .float .f32 1073741824] true false), (319, .row 65 [tzq0, tzi 10, tzs 320 7, tzs 321 1] true false)]
noncomputable def tzL20 : List (Nat × AObj) := tzO20_0 ++ tzL17
noncomputable def tzH20 : Heap := ⟨353, 1, tzL20⟩
end Go.Proofs
namespace Go.Proofs
open Go.Fs
theorem tzP9 : runPre Tryz.prog OB 9 100000 (tzC) ⟨fillTr .leaf 0 [], Tryz.f15.ntmps, []⟩ ⟨1, 1, []⟩ = some (99991, sufx 9 tzC, tzF9, tzH9) := by kernel_rfl
end Go.Proofs
namespace Go.Proofs
open Go.Fs
theorem tzP11 : runPre Tryz.prog OB 2 99991 (sufx 9 tzC) tzF9 tzH9 = some (99989, sufx 11 tzC, tzF11, tzH11) := by kernel_rfl
end Go.Proofs
namespace Go.Proofs
open Go.Fs
theorem tzP14 : runPre Tryz.prog OB 3 99989 (sufx 11 tzC) tzF11 tzH11 = some (99986, sufx 14 tzC, tzF14, tzH14) := by kernel_rfl
end Go.Proofs
namespace Go.Proofs
open Go.Fs
theorem tzP17 : runPre Tryz.prog OB 3 99986 (sufx 14 tzC) tzF14 tzH14 = some (99983, sufx 17 tzC, tzF17, tzH17) := by kernel_rfl
end Go.Proofs
namespace Go.Proofs
open Go.Fs
theorem tzP20 : runPre Tryz.prog OB 3 99983 (sufx 17 tzC) tzF17 tzH17 = some (99980, sufx 20 tzC, tzF20, tzH20) := by kernel_rfl
end Go.Proofs
namespace Go.Proofs
open Go.Fs
theorem tzPe : (fsCodeX Tryz.prog OB 99980 none (sufx 20 tzC) tzF20 tzH20).bind (endV Tryz.prog Tryz.f15 ⟨1, 1, []⟩) = some (.bool true) := by kernel_rfl
end Go.Proofs
namespace Go.Proofs
open Go.Fs
theorem tzRun : (fsEnter Tryz.prog (fsCodeX Tryz.prog OB 100000) 15 [] ⟨1, 1, []⟩).map (·.1) = some (.bool true) := by
  rw [enter_map (c := tzC) Tryz.func15 rfl (by rfl)]; show (fsCodeX Tryz.prog OB 100000 none tzC ⟨fillTr .leaf 0 [], Tryz.f15.ntmps, []⟩ ⟨1, 1, []⟩).bind _ = _; rw [run_via tzP9]; rw [run_via tzP11]; rw [run_via tzP14]; rw [run_via tzP17]; rw [run_via tzP20]; exact tzPe
end Go.Proofs
namespace Go.Fs
open Go.RowKit (Below)
open Go.Sort Go.Proofs
abbrev Cl3 := Int × Int × ByteArray
def encC (x : Cl3) : List Value := [.int .i64 x.1, .int .i64 x.2.1, .string x.2.2]
theorem encC_len : ∀ xs : List Cl3, (xs.flatMap encC).length = xs.length * 3
  | [] => rfl
  | x :: r => by rw [List.flatMap_cons, List.length_append, encC_len r]; simp [encC]; omega
variable {P : Program} {O : FuncId → List Value → Heap → Option (Value × Heap)} {h h' : Heap} {S : List Nat}
end Go.Fs
namespace Go.Fs
open Go.RowKit (Below)
open Go.Sort Go.Proofs Go.Shelf
variable {P : Program}
def orcN : FuncId → List Value → Heap → Option (Value × Heap) := fun _ _ _ => none
theorem orcN_sound {B : Nat} {w0 : World} : CallSound P B w0 orcN := fun f xs h v h' hf => by cases hf
theorem fs_openD (hP : ProgOk P) {B : Nat} {w0 w : World} {orc : FuncId → List Value → Heap → Option (Value × Heap)} (horc : CallSound P B w0 orc) {ρ : Ren} {S : Nat → Prop} {h : Heap} {f : FuncId} {args args' : List Value} {v : Value}
    (hE : Enters P f) (hr : HR P ρ S B w0 h w) (ha : LR ρ S args args') (he : EvF P orc f args h fun u _ => u = v) (hv : af v = true) : Calls P f args'.toArray w fun | .returned v', w' => v' = v ∧ Below B w0 w' ∧ w0.drawn ≤ w'.drawn | _, _ => False := by
  obtain ⟨m, u, h', h1, rfl⟩ := he
  have hc : CallsIn Fence.wide 0 P f args'.toArray w (RetR P B w0 ρ S h w u h') := by
    rcases call_sound hP horc (code_sound hP horc m) f args h u h' h1 with h2 | h2
    · exact h2.2 ρ S w args' hr ha 0
    obtain ⟨w', v', h3, _⟩ := h2 ρ S w args' hr ha; rw [callFunc_run hE] at h3; simp at h3
  refine Calls.mono (callsIn_wide.1 hc) fun e w' he => ?_
  cases e with
  | returned v' =>
    obtain ⟨ρ', m1, hv1⟩ := he
    exact ⟨hv1.eq_of_af hv, m1.hr.below, m1.hr.drawn⟩
  | panicked c => exact he.elim
  | outgrown => exact he.elim
theorem hr_nil {w : World} : HR P (fun _ => Loc.clean 0 0 0 0) (fun _ => False) w.heap.size w ⟨1, 1, []⟩ w where
  objs := fun i o h => by cases h
  inj := fun i j oi oj h => by cases h
  base := fun i o h => by cases h
  ro := fun i o h => by cases h
  ids := fun b hb => hb.elim
  pos := Nat.one_pos
  below := Below.refl _ _
  drawn := Nat.le_refl _
  size := Nat.le_refl _
theorem grown_of {w w' : World} (h : Below w.heap.size w w') (hd : w.drawn ≤ w'.drawn) : ∃ q os, w' = grow (w.drewN q) os := by
  obtain ⟨p, hp⟩ := regrown_of_below h; refine ⟨p.d - w.drawn, p.os, ?_⟩
  have e : p.d = w'.drawn := by rw [hp]; rfl
  rw [hp]; congr 1; unfold redrawn World.drewN; congr 1; omega
theorem cmp_lays {α : Type} [Inhabited α] (hP : ProgOk P) {g : FuncId} (hE : Enters P g) {enc : α → List Value} {k : Nat} {cf : α → α → Int} {blk off size : Nat} {w : World} (haf : ∀ x, (enc x).all af0 = true)
    (h : ∀ x y : α, EvF P orcN g [.agg (enc x).toArray, .agg (enc y).toArray] ⟨1, 1, []⟩ fun u _ => u = .int .i64 (cf x y)) : CmpLays P g #[] enc k cf blk off size w := fun m os dk _ x y => by
  have hA : ∀ x, VR (fun _ => (Loc.clean 0 0 0 0)) (fun _ => False) (.agg (enc x).toArray) (.agg (enc x).toArray) := fun x => VR.agg' (LR.self_af0 (by simpa using haf x)); have hl : LR (fun _ => (Loc.clean 0 0 0 0)) (fun _ => False) [.agg (enc x).toArray, .agg (enc y).toArray] [.agg (enc x).toArray, .agg (enc y).toArray] := LR.cons (hA x) (LR.cons (hA y) LR.nil); refine (fs_openD (args' := [.agg (enc x).toArray, .agg (enc y).toArray]) hP orcN_sound hE (hr_nil (w := sortWorldK enc k w blk off m dk os)) hl (h x y) rfl).mono fun e w' he => ?_
  cases e with
  | returned v' =>
    obtain ⟨rfl, h1, h2⟩ := he; obtain ⟨q, os', h3⟩ := grown_of h1 h2
    exact ⟨rfl, q, os', h3⟩
  | panicked c => exact he.elim
  | outgrown => exact he.elim
theorem flatC (ys : List Cl3) : flatK encC 3 ys.toArray = (ys.flatMap encC).toArray := by
  refine ext_get! (by rw [size_flatK, List.size_toArray, List.size_toArray, encC_len]) fun t ht => ?_
  have ht' : t < ys.length * 3 := by simpa using ht
  rw [get_flatK _ _ _ _ (by simpa using ht')]
  have key : ∀ (zs : List Cl3) (t : Nat), t < zs.length * 3 → (zs.flatMap encC)[t]! = (encC (zs[t / 3]!))[t % 3]! := by
    intro zs
    induction zs with
    | nil => intro t ht; simp at ht
    | cons z zs ih =>
      intro t ht; rw [List.flatMap_cons]; by_cases h3 : t < 3
      · have e1 : t / 3 = 0 := by omega
        have e2 : t % 3 = t := by omega
        rw [e1, e2]; simp [encC]; rcases t with _ | _ | _ | t
        · rfl
        · rfl
        · rfl
        omega
      obtain ⟨u, rfl⟩ : ∃ u, t = u + 3 := ⟨t - 3, by omega⟩
      have e1 : (u + 3) / 3 = u / 3 + 1 := by omega
      have e2 : (u + 3) % 3 = u % 3 := by omega
      rw [e1, e2]; have := ih u (by simp at ht; omega); simpa [encC] using this
  have := key ys t ht'; simpa using this.symm
end Go.Fs
namespace Go.Fs
variable {P : Program} {orc : FuncId → List Value → Heap → Option (Value × Heap)} {rnd : Option Nat} {h h' h0 h1 h2 : Heap} {S S' S0 G : List Nat} {σ σ' σr γ γ' : Sto} {t t' : Tr} {ms : List Nat} {fl nw : VL} {ops : Array Oper} {n i mem : Nat} {l : List Oper} {K : VL → Sto → Prop} {Q : Ex → VL → Sto → Prop}
  {d : Tmp} {ty : TypeId} {pos : String} {after : Array Edge} {op : Op} {v pv : PV} {g : Option (Nat × Bool)} {bs nw0 : List Nat} {tail so : Bool} {x y z : Operand} {T T' e : TypeId} {τ τ' : Ty} {w w' : Value}
end Go.Fs
namespace Go.Fs
variable {P : Program} {orc : FuncId → List Value → Heap → Option (Value × Heap)} {rnd : Option Nat} {h h' h0 h1 h2 : Heap} {S S' S0 G : List Nat} {σ σ' σr γ γ' : Sto} {t t' : Tr} {ms : List Nat} {fl nw : VL} {ops : Array Oper} {n i mem : Nat} {l : List Oper} {K : VL → Sto → Prop} {Q : Ex → VL → Sto → Prop}
  {d : Tmp} {ty : TypeId} {pos : String} {after : Array Edge} {op : Op} {v pv : PV} {g : Option (Nat × Bool)} {bs nw0 : List Nat} {tail so : Bool} {x y z : Operand} {T T' e : TypeId} {τ τ' : Ty} {w w' : Value}
end Go.Fs
namespace Go.Fs
variable {P : Program} {orc : FuncId → List Value → Heap → Option (Value × Heap)} {h h' h0 h1 h2 : Heap} {S S' S0 G : List Nat} {σ σ' γ γ' : Sto} {t t' : Tr} {ms : List Nat} {fl : VL} {τ : Ty}
end Go.Fs
namespace Go.Fs
variable {P : Program} {orc : FuncId → List Value → Heap → Option (Value × Heap)} {h h' h0 h1 h2 : Heap} {S S' S0 G : List Nat} {σ σ' : Sto} {t t' : Tr} {ms : List Nat} {fl : VL} {ops : Array Oper} {n i mem : Nat} {l : List Oper} {K : VL → Sto → Prop}
  {d : Tmp} {ty : TypeId} {pos : String} {after : Array Edge} {g : Option (Nat × Bool)} {bs nw : List Nat} {tail so : Bool} {e : TypeId} {τ : Ty}
end Go.Fs
namespace Go.Proofs.Cmp
open Go.Fs
set_option maxHeartbeats 1000000
abbrev y199FZ : Ty := (.pair (.int .i64) (.int .i64))
theorem vt3FZ : ValT Tryz.prog 3 (.int .i64) := valT_of (by kernel_rfl)
theorem nNaN_ok {x : Int} : VF Tryz.prog orcN 181 [I x] (B false) := by
  refine VF.enter Tryz.func181 rfl (fun _ _ => rfl) rfl ?_; show VC _ _ _ _ _ [(0, I x)] [] _; refine VC.seq (VC.text ?_); refine VO.c (.assign rfl) ?_; refine VO.go (VC.seq (VC.text ?_)); refine VO.c (.move rfl) ?_; refine VO.c (.move rfl) ?_; refine VO.c (.neq) ?_; refine VO.c (.assign rfl) ?_; refine VO.go ?_; refine VC.ret ?_; exact VEnd.one rfl evT (pvE (by simp))
theorem nCompare_ok {x : Int} {y : Int} : VF Tryz.prog orcN 155 [I x, I y] (I (Lib.compareInt x y)) := by
  refine VF.enter Tryz.func155 rfl (fun _ _ => rfl) rfl ?_; show VC _ _ _ _ _ [(0, I x), (1, I y)] [] _; refine VC.seq (VC.text ?_); refine VO.c (.assign rfl) ?_; refine VO.go (VC.seq (VC.text ?_)); refine VO.c (.move rfl) ?_; refine VO.call rfl rfl (VF.call (nNaN_ok )) ?_; refine VO.c (.assign rfl) ?_; refine VO.go (VC.seq (VC.text ?_)); refine VO.c (.move rfl) ?_; refine VO.call rfl rfl (VF.call (nNaN_ok )) ?_; refine VO.c (.assign rfl) ?_; refine VO.go (VC.seq (VC.seq (VC.text ?_))); refine VO.c (.move rfl) ?_; refine VO.go ?_; refine VC.condF rfl ?_; refine VC.skip (VC.seq (VC.seq (VC.text ?_))); refine VO.c (.move rfl) ?_; refine VO.go ?_; refine VC.condF rfl ?_; refine VC.skip (VC.seq (VC.seq (VC.text ?_))); refine VO.c (.move rfl) ?_; refine VO.c (.move rfl) ?_; refine VO.c (.lss) ?_; refine VO.go ?_; refine VC.condD rfl (fun c9 => ?_) (fun c9 => ?_)
  · refine VC.seq (VC.text ?_); refine VO.c (.assign rfl) ?_; refine VO.go ?_; refine VC.ret ?_; exact VEnd.one rfl evT (pvI (by unfold Lib.compareInt; simp [*]))
  refine VC.skip (VC.seq (VC.seq (VC.text ?_))); refine VO.c (.move rfl) ?_; refine VO.c (.move rfl) ?_; refine VO.c (.gtr) ?_; refine VO.go ?_; refine VC.condD rfl (fun c11 => ?_) (fun c11 => ?_)
  · refine VC.seq (VC.text ?_); refine VO.c (.assign rfl) ?_; refine VO.go ?_; refine VC.ret ?_; exact VEnd.one rfl evT (pvI (by unfold Lib.compareInt; simp [*]))
  refine VC.skip (VC.seq (VC.text ?_)); refine VO.c (.assign rfl) ?_; refine VO.go ?_; refine VC.ret ?_; exact VEnd.one rfl evT (pvI (by unfold Lib.compareInt; simp [*]))
theorem nEdge_ok {x : Int × Int} {y : Int × Int} : VF Tryz.prog orcN 132 [.v y199FZ x, .v y199FZ y] (I (Lib.compareInt x.1 y.1)) := by
  refine VF.enter Tryz.func132 rfl (fun _ _ => rfl) rfl ?_; show VC _ _ _ _ _ [(0, .v y199FZ x), (1, .v y199FZ y)] [] _; refine VC.seq (VC.text ?_); refine VO.new (.box) ?_; refine VO.new (.box) ?_; refine VO.c (.assign rfl) ?_; refine VO.go (VC.seq (VC.text ?_)); refine VO.c (.fa (.l .o)) ?_; refine VO.r (.ld vt3FZ) ?_; refine VO.c (.fa (.l .o)) ?_; refine VO.r (.ld vt3FZ) ?_; refine VO.call rfl rfl (VF.call (nCompare_ok )) ?_; refine VO.c (.assign rfl) ?_; refine VO.go ?_; refine VC.ret ?_; exact VEnd.one rfl evT (pvI (by rfl))
end Go.Proofs.Cmp
namespace Go.Proofs
open Go.Shelf
def Tryz.sortEdge_ren : Go.Shelf.Ren := ⟨fun | 6 => 131 | 15 => 147 | 14 => 154 | 28 => 169 | 29 => 170 | 20 => 173 | 21 => 174 | 22 => 175 | 23 => 176 | 24 => 177 | 25 => 178 | 26 => 179 | 27 => 180 | 46 => 195 | 47 => 187 | 48 => 188 | 49 => 196 | 50 => 197 | 57 => 205 | n => n, fun | 22 => 196 | 24 => 199 | 25 => 202 | 3 => 3 | 39 => 210 | 0 => 0 | 53 => 180 | 55 => 221 | 4 => 4 | 46 => 229 | 45 => 228 | 50 => 169 | 5 => 5 | 9 => 9 | 66 => 251 | 70 => 255 | 76 => 263 | 77 => 264 | n => n, fun | n => n⟩
theorem Tryz.sortEdge : Go.Proofs.SlLaysF0.n6 Tryz.prog Tryz.sortEdge_ren := {
  mixed := by kernel_rfl
  f6 := ⟨Tryz.f131.name, by decide, Tryz.func131.trans (congrArg some (by kernel_rfl))⟩
  f14 := ⟨Tryz.f154.name, by decide, Tryz.func154.trans (congrArg some (by kernel_rfl))⟩
  f15 := Tryz.func147.trans (congrArg some (by kernel_rfl))
  f20 := ⟨Tryz.f173.name, by decide, Tryz.func173.trans (congrArg some (by kernel_rfl))⟩
  f21 := ⟨Tryz.f174.name, by decide, Tryz.func174.trans (congrArg some (by kernel_rfl))⟩
  f22 := ⟨Tryz.f175.name, by decide, Tryz.func175.trans (congrArg some (by kernel_rfl))⟩
  f23 := ⟨Tryz.f176.name, by decide, Tryz.func176.trans (congrArg some (by kernel_rfl))⟩
  f24 := ⟨Tryz.f177.name, by decide, Tryz.func177.trans (congrArg some (by kernel_rfl))⟩
  f25 := ⟨Tryz.f178.name, by decide, Tryz.func178.trans (congrArg some (by kernel_rfl))⟩
  f26 := ⟨Tryz.f179.name, by decide, Tryz.func179.trans (congrArg some (by kernel_rfl))⟩
  f27 := ⟨Tryz.f180.name, by decide, Tryz.func180.trans (congrArg some (by kernel_rfl))⟩
  f28 := Tryz.func169.trans (congrArg some (by kernel_rfl))
  f29 := Tryz.func170.trans (congrArg some (by kernel_rfl))
  f46 := ⟨Tryz.f195.name, by decide, Tryz.func195.trans (congrArg some (by kernel_rfl))⟩
  f47 := Tryz.func187.trans (congrArg some (by kernel_rfl))
  f48 := Tryz.func188.trans (congrArg some (by kernel_rfl))
  f49 := ⟨Tryz.f196.name, by decide, Tryz.func196.trans (congrArg some (by kernel_rfl))⟩
  f50 := ⟨Tryz.f197.name, by decide, Tryz.func197.trans (congrArg some (by kernel_rfl))⟩
  f57 := ⟨Tryz.f205.name, by decide, Tryz.func205.trans (congrArg some (by kernel_rfl))⟩
  t0 := Tryz.underlying0
  a0 := Tryz.isAgg0
  z0 := Tryz.sizeOf0
  v0 := Tryz.zeroValue0
  t3 := Tryz.underlying3
  a3 := Tryz.isAgg3
  z3 := Tryz.sizeOf3
  v3 := Tryz.zeroValue3
  t4 := Tryz.underlying4
  a4 := Tryz.isAgg4
  z4 := Tryz.sizeOf4
  v4 := Tryz.zeroValue4
  t5 := Tryz.underlying5
  a5 := Tryz.isAgg5
  z5 := Tryz.sizeOf5
  v5 := Tryz.zeroValue5
  t9 := Tryz.underlying9
  a9 := Tryz.isAgg9
  z9 := Tryz.sizeOf9
  v9 := Tryz.zeroValue9
  t22 := Tryz.underlying196
  a22 := Tryz.isAgg196
  z22 := Tryz.sizeOf196
  v22 := Tryz.zeroValue196
  t25 := Tryz.underlying202
  a25 := Tryz.isAgg202
  z25 := Tryz.sizeOf202
  v25 := Tryz.zeroValue202
  t39 := Tryz.underlying210
  a39 := Tryz.isAgg210
  z39 := Tryz.sizeOf210
  v39 := Tryz.zeroValue210
  t45 := Tryz.underlying228
  a45 := Tryz.isAgg228
  z45 := Tryz.sizeOf228
  v45 := Tryz.zeroValue228
  t46 := Tryz.underlying229
  a46 := Tryz.isAgg229
  z46 := Tryz.sizeOf229
  v46 := Tryz.zeroValue229
  t50 := Tryz.underlying169
  a50 := Tryz.isAgg169
  z50 := Tryz.sizeOf169
  v50 := Tryz.zeroValue169
  t53 := Tryz.underlying180
  a53 := Tryz.isAgg180
  z53 := Tryz.sizeOf180
  v53 := Tryz.zeroValue180
  t55 := Tryz.underlying221
  a55 := Tryz.isAgg221
  z55 := Tryz.sizeOf221
  v55 := Tryz.zeroValue221
  t66 := Tryz.underlying251
  a66 := Tryz.isAgg251
  z66 := Tryz.sizeOf251
  v66 := Tryz.zeroValue251
  t70 := Tryz.underlying255
  a70 := Tryz.isAgg255
  z70 := Tryz.sizeOf255
  v70 := Tryz.zeroValue255
  t76 := Tryz.underlying263
  a76 := Tryz.isAgg263
  z76 := Tryz.sizeOf263
  v76 := Tryz.zeroValue263
  t77 := Tryz.underlying264
  a77 := Tryz.isAgg264
  z77 := Tryz.sizeOf264
  v77 := Tryz.zeroValue264 }
end Go.Proofs
namespace Go.Fs
open Go.Sort Go.Proofs Go.Shelf
theorem flatAny {α : Type} [Inhabited α] {enc : α → List Value} {k : Nat} (hk : 0 < k) (hl : ∀ x, (enc x).length = k) (ys : List α) : flatK enc k ys.toArray = (ys.flatMap enc).toArray := by
  have hlen : ∀ zs : List α, (zs.flatMap enc).length = zs.length * k := by
    intro zs
    induction zs with
    | nil => simp
    | cons z zs ih => rw [List.flatMap_cons, List.length_append, ih, hl, List.length_cons, Nat.add_mul]; omega
  refine ext_get! (by rw [size_flatK, List.size_toArray, List.size_toArray, hlen]) fun t ht => ?_
  have ht' : t < ys.length * k := by simpa using ht
  rw [get_flatK _ _ _ _ (by simpa using ht')]
  have key : ∀ (zs : List α) (t : Nat), t < zs.length * k → (zs.flatMap enc)[t]! = (enc (zs[t / k]!))[t % k]! := by
    intro zs
    induction zs with
    | nil => intro t ht; simp at ht
    | cons z zs ih =>
      intro t ht; rw [List.flatMap_cons]; by_cases h3 : t < k
      · rw [Nat.div_eq_of_lt h3, Nat.mod_eq_of_lt h3]
        have h4 : t < (enc z).length := by rw [hl]; exact h3
        have h5 : t < (enc z ++ zs.flatMap enc).length := by rw [List.length_append]; omega
        rw [getElem!_pos (enc z ++ zs.flatMap enc) t h5, List.getElem_append_left h4]; show _ = (enc z)[t]!; rw [getElem!_pos (enc z) t h4]
      obtain ⟨u, rfl⟩ : ∃ u, t = u + k := ⟨t - k, by omega⟩
      have hu : u < zs.length * k := by rw [List.length_cons, Nat.add_mul] at ht; omega
      have e1 : (u + k) / k = u / k + 1 := Nat.add_div_right u hk; have e2 : (u + k) % k = u % k := Nat.add_mod_right u k; rw [e1, e2]
      have h5 : u + k < (enc z ++ zs.flatMap enc).length := by rw [List.length_append, hl, hlen]; omega
      have h6 : u < (zs.flatMap enc).length := by rw [hlen]; exact hu
      have ih := ih u hu; rw [getElem!_pos (zs.flatMap enc) u h6] at ih; rw [getElem!_pos (enc z ++ zs.flatMap enc) (u + k) h5, List.getElem_append_right (by rw [hl]; omega)]
      have e3 : u + k - (enc z).length = u := by rw [hl]; omega
      simp only [e3]; rw [ih]; simp
  have := key ys t ht'; simpa using this.symm
end Go.Fs
namespace Go.Proofs.YthiofhkndpegjaaGreatDoor
open Go.ChangeShapes Go.WideShapes Go.ChangeAt Go.RowKit Go.Fs
theorem own : ownKnob Tryz.prog.godebug = none := by kernel_rfl
theorem laidOut : laidOutB Tryz.prog = true := by kernel_rfl
theorem gPow : ∃ g : Nat, Tryz.prog.globalNamed "internal/strconv.uint64pow10" = some g ∧ (Tryz.prog.globals[g]?).map (·.type) = some 268 := ⟨1, by kernel_rfl, by kernel_rfl⟩
theorem powTab {W : World} {a b : String × DataW Unit} (h : laidMet Tryz.prog [a, b, ("internal/strconv.uint64pow10", Rows.laid_internal_strconv_uint64pow10)] W) : Lib.TabIs Tryz.prog W "internal/strconv.uint64pow10" .u64 Lib.pow10Tab := by
  obtain ⟨g, h1, h2⟩ := gPow; exact Lib.tabIs_of_head (rest := []) h1 h2 Tryz.underlying268 Tryz.underlying221 (by kernel_rfl) (by kernel_rfl) (laidMet.tail (laidMet.tail h))
theorem tzSortE : Fs.Enters Tryz.prog 131 := ⟨_, Tryz.func131, rfl, by kernel_rfl⟩
theorem tzCmpE : Fs.Enters Tryz.prog 132 := ⟨_, Tryz.func132, rfl, by kernel_rfl⟩
abbrev tyE : Ty := .pair (.int .i64) (.int .i64)
abbrev encE (x : Int × Int) : List Value := [.int .i64 x.1, .int .i64 x.2]
theorem tzCmp (x y : Int × Int) : EvF Tryz.prog orcN 132 [.agg (encE x).toArray, .agg (encE y).toArray] ⟨1, 1, []⟩ fun u _ => u = .int .i64 (cmpE x y) := by
  have hr : ∀ x : Int × Int, RepPV ⟨1, 1, []⟩ [] (.v tyE x) (.agg (encE x).toArray) := fun x => ⟨rfl, rfl, rfl⟩; exact (Cmp.nEdge_ok (x := x) (y := y) ⟨1, 1, []⟩ [] [.agg (encE x).toArray, .agg (encE y).toArray] (fun b o hg => by cases hg) (fun b hb => by cases hb) ⟨_, _, rfl, hr x, _, _, rfl, hr y, rfl⟩).mono fun u h' hq => RepV.int hq.2.1
/-- The sort of edges by the library's contract. -/
theorem tzSortT {B : Nat} {w0 : World} (blk cap n : Nat) (vs vs' : List Value) (w : World) (hl : vs.length = n * 2) (hs : srtG (τ := tyE) cmpE vs = some vs') (hb : Below B w0 w) (hH : Go.Sort.Holds id w blk 0 vs.toArray) (hblk : blk < w.heap.size) (hn : n ≤ 1000000) :
    Calls Tryz.prog 131 #[.slice (some ⟨blk, 0, none⟩) n cap, .func (.func 132) #[] #[]] w fun e w' => e = .returned (.tuple #[]) ∧ ∃ q os, w' = Go.Sort.grow (Go.Sort.putRow id (Go.Sort.ahead w q) blk 0 vs'.toArray) os := by
  obtain ⟨xs, rfl, rfl⟩ := srtG_inv hs; have hlen : ∀ ys : List (Int × Int), (encL tyE ys).length = ys.length * 2 := fun ys => encL_len (τ := tyE) rfl ys
  have hxs : xs.length = n := by rw [hlen] at hl; omega
  have hflat : ∀ ys : List (Int × Int), Go.Sort.flatK encE 2 ys.toArray = (encL tyE ys).toArray := fun ys => flatAny (enc := encE) (k := 2) (by decide) (fun _ => rfl) ys; have hcmp := cmp_lays (P := Tryz.prog) tzOk tzCmpE (enc := encE) (k := 2) (cf := cmpE) (blk := blk) (off := 0) (size := xs.toArray.size) (w := w) (fun x => rfl) tzCmp; have hcon := AnyQ.slices_SortFunc_eq Tryz.sortEdge 2 Tryz.isAgg199 Tryz.sizeOf199 encE (fun _ => rfl) (fun x v hv => by simp [encE] at hv; rcases hv with rfl | rfl <;> rfl) cmpE swoE 132 #[] blk 0 cap xs.toArray w (callFunc_run tzCmpE) hcmp (by unfold Go.Sort.HoldsK; rw [hflat]; exact hH) hblk (by simp; omega); have hcon : Calls Tryz.prog 131 #[.slice (some ⟨blk, 0, none⟩) xs.toArray.size cap, .func (.func 132) #[] #[]] w _ := hcon; rw [show xs.toArray.size = n by simpa using hxs] at hcon; refine hcon.mono fun e w' he => ?_; obtain ⟨he, q, os, hw⟩ := he; refine ⟨he, q, os, ?_⟩; rw [hw]; unfold Go.Proofs.sortWorldK Go.Sort.putRowK
  have e2 : (Go.Sort.pdq (ltOf cmpE) xs.toArray 0 n (Lib.bitLen n) true true) = (Go.Fs.sortG (τ := tyE) cmpE xs).toArray := by unfold Go.Fs.sortG; simp [hxs]; rfl
  rw [e2, hflat]
/-- The oracle is sound wherever the table of powers lies. -/
theorem orcOk {W : World} (ht : Lib.TabIs Tryz.prog W "internal/strconv.uint64pow10" .u64 Lib.pow10Tab) : CallSound Tryz.prog W.heap.size (wz W) OA := by
  have hT : ∀ w, Below W.heap.size W w → Lib.TabIs Tryz.prog w "internal/strconv.uint64pow10" .u64 Lib.pow10Tab := Lib.tabBelow_of_tabIs ht
  have hS : ∀ w, Below W.heap.size W w → CallSound Tryz.prog w.heap.size (wz w) OB := fun w hw =>
    tzOrcB rfl (Nat.le_refl _) fun w' hw' => hT w' (hw.trans ((below_z hw').mono hw.size))
  refine orcF_sound rfl (srtG_ok rfl swoE) ?_ tzSortE (fun w hw => (AnyF.slices_SortFunc_none Tryz.sortEdge none 0 _ w).mono fun e w' he => by obtain ⟨rfl, rfl⟩ := he; exact ⟨rfl, Below.refl _ _⟩) tzSortT; exact orcA_sound rfl (tzOrc rfl (Nat.le_refl _) fun w' hw' => hT w' (below_z hw')) tzAwakeE fun w hw => awakeX_calls tzOk (fun w' hw' => hS w' (below_z hw')) tzRun w hw
noncomputable def doorWorld (os : Os) : World := World.doorLaid Tryz.prog 24 os
end Go.Proofs.YthiofhkndpegjaaGreatDoor
