/- Parts of the proof: an evaluator of the model, what it is sound for, and contracts of functions. No condition. -/
import Derived.Test.YtligdjefbiebjaaGreatDoorP9SzBase
import Derived.Test.YtligdjefbiebjaaGreatDoorP5
import Derived.Test.YtligdjefbiebjaaGreatDoorP3
import Derived.Lib.QuietBelow
import Derived.Test.YtligdjefbiebjaaGreatDoorP6
import Derived.Test.YtligdjefbiebjaaGreatDoorProg
import Derived.KernelRfl
import Derived.Shelf.SlSortCmp.WholeK
import Derived.Shelf.SlSortCmp.NoneTotal
import Derived.ChangeArms
import Derived.Carry
import Derived.RowKit
import Derived.OpenShut
import Derived.Test.YtligdjefbiebjaaGreatDoorCards
import Derived.Test.YtligdjefbiebjaaGreatDoorTie
import Derived.WalkKit
import Derived.ProofKit
import Derived.LaidMore
import Derived.Deep.DeepHandedRow
import Derived.Lib.LaidTab
import Derived.Stop.LaidErr
set_option linter.all false
namespace Go.Proofs
open Go.Fs
noncomputable def tzq0 : Value := .string ⟨#[109, 111, 100, 101, 108]⟩
noncomputable def tzq1 : Value := .string ⟨#[101, 51]⟩
noncomputable def tzq2 : Value := .string ⟨#[115, 104, 117, 116]⟩
noncomputable def tzq3 : Value := .string ⟨#[115, 97, 102, 101]⟩
noncomputable def tzq4 : Value := .string ⟨#[115, 111, 117, 116, 104]⟩
noncomputable def tzq5 : Value := .string ⟨#[101, 49]⟩
noncomputable def tzq6 : Value := .string ⟨#[110, 111, 114, 116, 104]⟩
noncomputable def tzq7 : Value := .string ⟨#[103, 97, 116, 101]⟩
noncomputable def tzq8 : Value := .string ⟨#[116, 111, 112]⟩
noncomputable def tzq9 : Value := .string ⟨#[101, 50]⟩
noncomputable def tzq10 : Value := .string ⟨#[121]⟩
noncomputable def tzq11 : Value := .string ⟨#[108, 111, 99, 107]⟩
noncomputable def tzq12 : Value := .string ⟨#[98]⟩
noncomputable def tzq13 : Value := .string ⟨#[120]⟩
noncomputable def tzq14 : Value := .string ⟨#[98, 114, 97, 107, 101]⟩
noncomputable def tzq15 : Value := .string ⟨#[97]⟩
noncomputable def tzq16 : Value := .string ⟨#[]⟩
noncomputable def tzq17 : Value := .string ⟨#[99]⟩
noncomputable def tzn : Value := .slice none 0 0
noncomputable def tzu : Value := .tuple #[]
noncomputable def tzs (b n : Nat) : Value := .slice (some ⟨b, 0, none⟩) n 0
noncomputable def tzi (n : Int) : Value := .int .i64 n
noncomputable def tzp (b o : Nat) : Value := .pointer (some ⟨b, o, none⟩)
noncomputable def tzC : Code := match Tryz.f16.body with | some c => c | none => .skip
noncomputable def tzx0 : Tr := (.node (tzi 0) (.node (.bool false) .leaf .leaf) .leaf)
noncomputable def tzx1 : Tr := (.node (tzi 2) (.node (.bool false) .leaf .leaf) .leaf)
noncomputable def tzx2 : Tr := (.node (tzi 0) (.node (tzi 0) .leaf .leaf) .leaf)
noncomputable def tzx3 : Tr := (.node (.bool false) (.node (tzi 0) .leaf .leaf) .leaf)
noncomputable def tzx4 : Tr := (.node (tzi 2) (.node (tzi 0) .leaf .leaf) .leaf)
noncomputable def tzx5 : Tr := (.node (tzi 15) (.node (.bool false) .leaf .leaf) .leaf)
noncomputable def tzx6 : Tr := (.node (tzi 20) (.node (.bool false) .leaf .leaf) .leaf)
noncomputable def tzx7 : Tr := (.node (tzi 0) (.node (tzi 21) .leaf .leaf) .leaf)
noncomputable def tzx8 : Tr := (.node (tzi 15) (.node (tzi 0) .leaf .leaf) .leaf)
noncomputable def tzx9 : Tr := (.node (tzi 20) (.node (tzi 0) .leaf .leaf) .leaf)
noncomputable def tzx10 : Tr := (.node (.tuple #[tzs 25 2, tzi 0]) .leaf .leaf)
noncomputable def tzx11 : Tr := (.node (.tuple #[tzs 41 2, tzi 0]) .leaf .leaf)
noncomputable def tzx12 : Tr := (.node (.tuple #[tzs 92 2, tzi 0]) .leaf .leaf)
noncomputable def tzx13 : Tr := (.node (.tuple #[tzs 129 2, tzi 0]) .leaf .leaf)
noncomputable def tzx14 : Tr := (.node (.tuple #[tzs 239 2, tzi 0]) .leaf .leaf)
noncomputable def tzx15 : Tr := (.node (.tuple #[tzs 315 1, tzi 0]) .leaf .leaf)
noncomputable def tzx16 : Tr := (.node (.tuple #[tzs 594 2, tzi 0]) .leaf .leaf)
noncomputable def tzx17 : Tr := (.node (.tuple #[tzs 440 1, tzi 0]) .leaf .leaf)
noncomputable def tzx18 : Tr := (.node (tzq11) (.node (tzi 0) .leaf .leaf) .leaf)
noncomputable def tzx19 : Tr := (.node (tzs 41 2) (.node (.bool false) .leaf .leaf) .leaf)
noncomputable def tzx20 : Tr := (.node (tzi 0) (.node (tzs 92 2) .leaf .leaf) .leaf)
noncomputable def tzx21 : Tr := (.node (tzs 56 2) (.node (tzi 0) .leaf .leaf) .leaf)
noncomputable def tzx22 : Tr := (.node (tzs 51 3) (.node (tzi 33) .leaf .leaf) .leaf)
noncomputable def tzx23 : Tr := (.node (.bool false) (.node (tzs 315 1) .leaf .leaf) .leaf)
noncomputable def tzx24 : Tr := (.node (.bool false) (.node (.tuple #[.bool true, tzi 0]) .leaf .leaf) .leaf)
noncomputable def tzx25 : Tr := (.node (tzi 0) (.node (.tuple #[.bool true, tzi 0]) .leaf .leaf) .leaf)
noncomputable def tzx26 : Tr := (.node (tzq16) (.node (tzs 129 2) .leaf .leaf) .leaf)
noncomputable def tzx27 : Tr := (.node (.tuple #[tzi 20, tzi 0]) (.node (.bool false) .leaf .leaf) .leaf)
noncomputable def tzx28 : Tr := (.node (tzi 15) (.node (.bool false) .leaf .leaf) (.node (.bool true) .leaf .leaf))
noncomputable def tzx29 : Tr := (.node (tzi 0) (.node (.bool false) .leaf .leaf) (.node (.bool false) .leaf .leaf))
noncomputable def tzx30 : Tr := (.node (tzi 0) (.node (tzi 21) .leaf .leaf) (.node (.bool true) .leaf .leaf))
noncomputable def tzx31 : Tr := (.node (tzi 0) (.node (.bool false) .leaf .leaf) (.node (tzi 0) .leaf .leaf))
noncomputable def tzx32 : Tr := (.node (tzi 2) (.node (.bool false) .leaf .leaf) (.node (.bool false) .leaf .leaf))
noncomputable def tzx33 : Tr := (.node (tzi 0) (.node (tzi 0) .leaf .leaf) (.node (.bool false) .leaf .leaf))
noncomputable def tzx34 : Tr := (.node (tzi 20) (.node (.bool false) .leaf .leaf) (.node (.bool false) .leaf .leaf))
noncomputable def tzx35 : Tr := (.node (tzp 54 3) (.node (tzs 1 1) .leaf .leaf) .leaf)
noncomputable def tzx36 : Tr := (.node (.tuple #[tzi 15, tzi 2, tzi 0]) (.node (.bool false) .leaf .leaf) .leaf)
noncomputable def tzx37 : Tr := (.node (tzs 1 1) (.node (tzs 1 1) .leaf .leaf) .leaf)
noncomputable def tzx38 : Tr := (.node (tzs 44 1) (.node (tzs 59 2) .leaf .leaf) .leaf)
noncomputable def tzx39 : Tr := (.node (tzs 55 2) (.node (tzs 239 2) .leaf .leaf) .leaf)
noncomputable def tzx40 : Tr := (.node (tzi 0) tzx12 .leaf)
noncomputable def tzx41 : Tr := (.node (.bool false) tzx13 .leaf)
noncomputable def tzx42 : Tr := (.node (.bool false) tzx14 .leaf)
noncomputable def tzx43 : Tr := (.node (.bool false) tzx15 .leaf)
noncomputable def tzx44 : Tr := (.node (tzi 0) (.node (tzs 92 2) .leaf .leaf) (.node (.bool true) .leaf .leaf))
noncomputable def tzx45 : Tr := (.node (tzs 41 2) (.node (.bool false) .leaf .leaf) (.node (tzi 0) .leaf .leaf))
noncomputable def tzx46 : Tr := (.node (tzi 0) (.node (.tuple #[.bool true, tzi 0]) .leaf .leaf) (.node (.bool false) .leaf .leaf))
noncomputable def tzx47 : Tr := (.node (.tuple #[tzi 20, tzi 0]) (.node (.bool false) .leaf .leaf) (.node (.bool false) .leaf .leaf))
noncomputable def tzx48 : Tr := (.node (tzs 25 2) tzx14 .leaf)
noncomputable def tzx49 : Tr := (.node (.agg #[tzs 69 2, tzs 72 3, tzs 76 3]) .leaf .leaf)
noncomputable def tzx50 : Tr := (.node (.agg #[tzs 94 2, tzs 97 3, tzs 101 3]) .leaf .leaf)
noncomputable def tzx51 : Tr := (.node (.agg #[tzs 103 2, tzs 106 3, tzs 110 3]) .leaf .leaf)
noncomputable def tzx52 : Tr := (.node (.agg #[tzs 254 2, tzs 268 3, tzs 283 3]) .leaf .leaf)
noncomputable def tzx53 : Tr := (.node (.agg #[tzs 241 2, tzs 244 3, tzs 248 3]) .leaf .leaf)
noncomputable def tzx54 : Tr := (.node (.agg #[tzs 159 2, tzs 162 3, tzs 166 3]) .leaf .leaf)
noncomputable def tzx55 : Tr := (.node (.agg #[tzs 287 2, tzs 290 3, tzs 294 3]) .leaf .leaf)
noncomputable def tzx56 : Tr := (.node (tzs 51 3) (.node (tzi 33) .leaf .leaf) (.node (tzs 129 2) .leaf .leaf))
noncomputable def tzx57 : Tr := (.node (.tuple #[tzs 41 2, tzi 0]) (.node (tzi 0) .leaf .leaf) (.node (.bool false) .leaf .leaf))
noncomputable def tzx58 : Tr := (.node (tzi 0) tzx12 (.node (.bool false) .leaf .leaf))
noncomputable def tzx59 : Tr := (.node (tzs 12 2) tzx0 (.node (.bool false) .leaf .leaf))
noncomputable def tzx60 : Tr := (.node (tzu) tzx0 (.node (.bool false) (.node (.bool true) .leaf .leaf) .leaf))
noncomputable def tzx61 : Tr := (.node (.agg #[tzq17, tzq10, tzq4, tzn, tzi 30, tzi 40]) .leaf .leaf)
noncomputable def tzx62 : Tr := (.node (.agg #[tzq12, tzq10, tzq4, tzn, tzi 15, tzi 25]) .leaf .leaf)
noncomputable def tzx63 : Tr := (.node (tzp 54 3) (.node (tzs 1 1) .leaf .leaf) (.node (tzs 239 2) .leaf .leaf))
noncomputable def tzx64 : Tr := (.node (.tuple #[tzi 15, tzi 2, tzi 0]) (.node (.bool false) .leaf .leaf) (.node (tzs 317 2) .leaf .leaf))
noncomputable def tzx65 : Tr := (.node (tzs 1 1) (.node (tzs 1 1) .leaf .leaf) (.node (tzs 316 2) .leaf .leaf))
noncomputable def tzx66 : Tr := (.node (tzs 44 1) (.node (tzs 59 2) .leaf .leaf) (.node (tzs 92 2) .leaf .leaf))
noncomputable def tzx67 : Tr := (.node (.tuple #[.agg #[tzs 254 2, tzs 268 3, tzs 283 3], tzi 0]) .leaf .leaf)
noncomputable def tzx68 : Tr := (.node (tzi 0) tzx12 (.node (tzs 319 1) .leaf .leaf))
noncomputable def tzx69 : Tr := (.node (.tuple #[.agg #[tzs 689 2, tzs 703 3, tzs 718 3], tzi 0]) .leaf .leaf)
noncomputable def tzx70 : Tr := (.node (tzi 0) tzx49 .leaf)
noncomputable def tzx71 : Tr := (.node (tzi 0) tzx50 .leaf)
noncomputable def tzx72 : Tr := (.node (.bool false) tzx51 .leaf)
noncomputable def tzx73 : Tr := (.node (.bool false) tzx53 .leaf)
noncomputable def tzx74 : Tr := (.node (.bool false) tzx54 .leaf)
noncomputable def tzx75 : Tr := (.node (tzs 30 2) tzx25 (.node (tzi 2) .leaf .leaf))
noncomputable def tzx76 : Tr := (.node (.tuple #[tzq11, tzi 0]) tzx6 (.node (.bool false) .leaf .leaf))
noncomputable def tzx77 : Tr := (.node (.tuple #[tzs 25 2, tzi 0]) tzx0 (.node (.bool false) .leaf .leaf))
noncomputable def tzx78 : Tr := (.node (.agg #[tzq15, tzq13, tzq6, tzs 58 1, tzi 10, tzi 20]) .leaf .leaf)
noncomputable def tzx79 : Tr := (.node (.agg #[tzq15, tzq13, tzq6, tzs 66 1, tzi 10, tzi 20]) .leaf .leaf)
noncomputable def tzx80 : Tr := (.node (.agg #[tzq15, tzq13, tzq6, tzs 61 1, tzi 10, tzi 20]) .leaf .leaf)
noncomputable def tzx81 : Tr := (.node (.tuple #[tzq16, tzi 0]) tzx1 (.node (tzs 56 2) .leaf .leaf))
noncomputable def tzx82 : Tr := (.node (.agg #[tzq12, tzq10, tzq4, tzs 64 2, tzi 15, tzi 25]) .leaf .leaf)
noncomputable def tzx83 : Tr := (.node (.tuple #[tzq16, tzi 0]) tzx22 (.node (.bool false) .leaf .leaf))
noncomputable def tzx84 : Tr := (.node (tzi 0) tzx62 .leaf)
noncomputable def tzx85 : Tr := (.node (tzs 41 2) tzx52 .leaf)
noncomputable def tzx86 : Tr := (.node (tzs 25 2) tzx40 (.node (.bool false) .leaf .leaf))
noncomputable def tzx87 : Tr := (.node (.bool false) tzx67 .leaf)
noncomputable def tzx88 : Tr := (.node (tzu) tzx19 tzx24)
noncomputable def tzx89 : Tr := (.node (tzs 1 1) tzx27 tzx3)
noncomputable def tzx90 : Tr := (.node (tzi 0) tzx79 .leaf)
noncomputable def tzx91 : Tr := (.node (.agg #[tzq12, tzq10, tzq4, tzs 46 2, tzi 15, tzi 25]) (.node (tzi 0) .leaf .leaf) .leaf)
noncomputable def tzx92 : Tr := (.node (tzs 12 2) tzx29 tzx3)
noncomputable def tzx93 : Tr := (.node (.tuple #[tzs 25 2, tzi 0]) tzx35 (.node (.bool false) .leaf .leaf))
noncomputable def tzx94 : Tr := (.node (.tuple #[tzs 41 2, tzi 0]) tzx40 (.node (.bool false) .leaf .leaf))
noncomputable def tzx95 : Tr := (.node (tzi 0) tzx49 (.node (tzs 315 1) .leaf .leaf))
noncomputable def tzx96 : Tr := (.node (.agg #[tzq12, tzq10, tzq4, tzs 50 2, tzi 15, tzi 25]) (.node (tzs 1 1) .leaf .leaf) .leaf)
noncomputable def tzx97 : Tr := (.node (.agg #[tzq12, tzq10, tzq4, tzs 53 2, tzi 15, tzi 25]) (.node (tzs 67 1) .leaf .leaf) .leaf)
noncomputable def tzx98 : Tr := (.node (.agg #[tzq15, tzq13, tzq6, tzs 48 1, tzi 10, tzi 20]) (.node (tzs 62 1) .leaf .leaf) .leaf)
noncomputable def tzx99 : Tr := (.node (tzi 0) tzx70 (.node (tzi 15) .leaf .leaf))
noncomputable def tzx100 : Tr := (.node (.tuple #[tzi 20, tzi 0]) tzx78 .leaf)
noncomputable def tzx101 : Tr := (.node (tzs 30 2) tzx46 tzx4)
noncomputable def tzx102 : Tr := (.node (.tuple #[tzs 25 2, tzi 0]) tzx29 tzx3)
noncomputable def tzx103 : Tr := (.node (.agg #[tzq12, tzq10, tzq4, tzs 46 2, tzi 15, tzi 25]) (.node (tzi 0) .leaf .leaf) (.node (.bool true) .leaf .leaf))
noncomputable def tzx104 : Tr := (.node (tzi 0) tzx79 (.node (.bool false) .leaf .leaf))
noncomputable def tzx105 : Tr := (.node (tzi 0) tzx62 (.node (tzs 318 2) .leaf .leaf))
noncomputable def tzx106 : Tr := (.node (.tuple #[tzi 15, tzi 2, tzi 0]) tzx80 .leaf)
noncomputable def tzx107 : Tr := (.node (tzs 25 2) tzx58 tzx3)
noncomputable def tzx108 : Tr := (.node (.agg #[tzq12, tzq10, tzq4, tzs 50 2, tzi 15, tzi 25]) (.node (tzs 1 1) .leaf .leaf) (.node (.bool false) .leaf .leaf))
noncomputable def tzx109 : Tr := (.node (.agg #[tzq12, tzq10, tzq4, tzs 53 2, tzi 15, tzi 25]) (.node (tzs 67 1) .leaf .leaf) (.node (.bool false) .leaf .leaf))
noncomputable def tzx110 : Tr := (.node (.agg #[tzq15, tzq13, tzq6, tzs 48 1, tzi 10, tzi 20]) (.node (tzs 62 1) .leaf .leaf) (.node (.bool false) .leaf .leaf))
noncomputable def tzx111 : Tr := (.node (.tuple #[tzi 20, tzi 0]) tzx78 (.node (.bool false) .leaf .leaf))
noncomputable def tzx112 : Tr := (.node (.agg #[tzq15, tzq13, tzq6, tzs 3 1, tzi 10, tzi 20]) tzx0 (.node (.bool false) .leaf .leaf))
noncomputable def tzx113 : Tr := (.node (.agg #[tzq12, tzq10, tzq4, tzs 29 2, tzi 15, tzi 25]) tzx2 (.node (.bool false) .leaf .leaf))
noncomputable def tzx114 : Tr := (.node (tzq16) tzx90 (.node (.bool true) .leaf .leaf))
noncomputable def tzx115 : Tr := (.node (.agg #[tzq12, tzq10, tzq4, tzs 11 2, tzi 15, tzi 25]) tzx7 (.node (tzi 20) .leaf .leaf))
noncomputable def tzx116 : Tr := (.node (.agg #[tzi 0, tzi 50]) tzx37 tzx41)
noncomputable def tzx117 : Tr := (.node (.agg #[tzq17, tzq10, tzq4, tzn, tzi 30, tzi 40]) tzx5 (.node (tzs 41 2) .leaf .leaf))
noncomputable def tzx118 : Tr := (.node (.tuple #[tzi 15, tzi 2, tzi 0]) tzx80 (.node (.bool true) .leaf .leaf))
noncomputable def tzx119 : Tr := (.node (.tuple #[tzs 41 2, tzi 0]) tzx71 (.node (.bool false) .leaf .leaf))
noncomputable def tzx120 : Tr := (.node (tzi 0) tzx97 (.node (.bool false) .leaf .leaf))
noncomputable def tzx121 : Tr := (.node (.agg #[tzq15, tzq13, tzq6, tzs 27 1, tzi 10, tzi 20]) tzx20 (.node (.bool false) .leaf .leaf))
noncomputable def tzx122 : Tr := (.node (.tuple #[tzs 41 2, tzi 0]) tzx68 tzx3)
noncomputable def tzx123 : Tr := (.node (tzu) tzx38 tzx72)
noncomputable def tzx124 : Tr := (.node (.agg #[tzq12, tzq10, tzq4, tzs 7 2, tzi 15, tzi 25]) tzx36 (.node (.bool false) .leaf .leaf))
noncomputable def tzx125 : Tr := (.node (tzq11) tzx96 (.node (.bool true) .leaf .leaf))
noncomputable def tzx126 : Tr := (.node (tzi 0) tzx95 tzx8)
noncomputable def tzx127 : Tr := (.node (.agg #[tzq12, tzq10, tzq4, tzs 29 2, tzi 15, tzi 25]) tzx33 tzx3)
noncomputable def tzx128 : Tr := (.node (.agg #[tzq17, tzq10, tzq4, tzn, tzi 30, tzi 40]) tzx82 .leaf)
noncomputable def tzx129 : Tr := (.node (.agg #[tzq15, tzq13, tzq6, tzs 43 1, tzi 10, tzi 20]) tzx61 .leaf)
noncomputable def tzx130 : Tr := (.node (.agg #[tzq12, tzq10, tzq4, tzs 11 2, tzi 15, tzi 25]) tzx30 tzx9)
noncomputable def tzx131 : Tr := (.node (tzu) tzx100 tzx18)
noncomputable def tzx132 : Tr := (.node (.tuple #[tzs 25 2, tzi 0]) tzx63 tzx43)
noncomputable def tzx133 : Tr := (.node (.agg #[tzq15, tzq13, tzq6, tzs 27 1, tzi 10, tzi 20]) tzx44 tzx3)
noncomputable def tzx134 : Tr := (.node (.tuple #[tzq11, tzi 0]) tzx98 (.node (tzs 55 2) .leaf .leaf))
noncomputable def tzx135 : Tr := (.node (.agg #[tzq17, tzq10, tzq4, tzn, tzi 30, tzi 40]) tzx82 (.node (.bool false) .leaf .leaf))
noncomputable def tzx136 : Tr := (.node (.agg #[tzq15, tzq13, tzq6, tzs 43 1, tzi 10, tzi 20]) tzx61 (.node (.bool false) .leaf .leaf))
noncomputable def tzx137 : Tr := (.node (.agg #[tzi 0, tzi 50, tzi 1]) tzx91 tzx26)
noncomputable def tzx138 : Tr := (.node (tzu) tzx76 tzx77)
noncomputable def tzx139 : Tr := (.node (.agg #[tzq15, tzq13, tzq6, tzs 9 1, tzi 10, tzi 20]) tzx84 (.node (.bool false) .leaf .leaf))
noncomputable def tzx140 : Tr := (.node (tzi 0) tzx128 (.node (.bool false) .leaf .leaf))
noncomputable def tzx141 : Tr := (.node (tzu) tzx129 tzx41)
noncomputable def tzx142 : Tr := (.node (.agg #[tzq12, tzq10, tzq4, tzs 5 2, tzi 15, tzi 25]) tzx106 (.node (tzs 25 2) .leaf .leaf))
noncomputable def tzx143 : Tr := (.node (.agg #[tzq15, tzq13, tzq6, tzs 9 1, tzi 10, tzi 20]) tzx105 tzx23)
noncomputable def tzx144 : Tr := (.node (tzi 0) tzx123 tzx93)
noncomputable def tzx145 : Tr := (.node (tzi 0) tzx131 tzx114)
noncomputable def tzx146 : Tr := (.node (tzi 0) tzx137 tzx115)
noncomputable def tzx147 : Tr := (.node (tzs 129 2) tzx116 tzx139)
noncomputable def tzx148 : Tr := (.node (.bool true) tzx141 tzx120)
noncomputable def tzT7 : Tr := (.node (.bool false) (.node (tzs 1 1) (.node (tzi 0) (.node (tzi 0) (.node (tzu) (.node (tzu) (.node (tzs 41 2) .leaf .leaf) .leaf) tzx61) (.node (tzu) (.node (.tuple #[tzq11, tzi 0]) (.node (tzi 20) .leaf .leaf) .leaf) tzx10)) (.node (tzi 0) (.node (tzu) (.node (tzu) (.node (tzs 44 1) .leaf .leaf) .leaf) tzx10) (.node (tzu) (.node (tzq11) .leaf .leaf) (.node (.agg #[tzq15, tzq13, tzq6, tzs 27 1, tzi 10, tzi 20]) .leaf .leaf)))) (.node (tzi 0) (.node (tzi 0) (.node (tzu) (.node (tzu) (.node (.tuple #[tzi 20, tzi 0]) .leaf .leaf) .leaf) (.node (tzq16) .leaf .leaf)) (.node (tzu) (.node (.agg #[tzq12, tzq10, tzq4, tzs 5 2, tzi 15, tzi 25]) .leaf .leaf) (.node (tzi 0) .leaf .leaf))) (.node (tzu) (.node (tzu) (.node (.agg #[tzi 0, tzi 50, tzi 1]) (.node (.agg #[tzq12, tzq10, tzq4, tzs 46 2, tzi 15, tzi 25]) .leaf .leaf) .leaf) (.node (.agg #[tzq12, tzq10, tzq4, tzs 11 2, tzi 15, tzi 25]) .leaf .leaf)) (.node (tzu) (.node (.tuple #[tzq16, tzi 0]) .leaf .leaf) (.node (tzs 30 2) .leaf .leaf))))) (.node (tzq11) (.node (tzq16) (.node (tzs 41 2) (.node (tzu) (.node (tzu) (.node (tzi 0) .leaf .leaf) .leaf) (.node (.tuple #[tzq16, tzi 0]) .leaf .leaf)) (.node (tzu) (.node (.agg #[tzq15, tzq13, tzq6, tzs 3 1, tzi 10, tzi 20]) (.node (tzi 0) .leaf .leaf) .leaf) (.node (tzs 25 2) .leaf .leaf))) (.node (tzu) (.node (tzu) (.node (.agg #[tzi 0, tzi 50]) (.node (tzs 1 1) .leaf .leaf) .leaf) (.node (.agg #[tzq15, tzq13, tzq6, tzs 9 1, tzi 10, tzi 20]) .leaf .leaf)) (.node (tzu) (.node (tzi 0) .leaf .leaf) (.node (.agg #[tzq12, tzq10, tzq4, tzs 29 2, tzi 15, tzi 25]) .leaf .leaf)))) (.node (tzs 25 2) (.node (tzi 20) (.node (tzu) (.node (tzu) (.node (.agg #[tzq15, tzq13, tzq6, tzs 43 1, tzi 10, tzi 20]) .leaf .leaf) .leaf) (.node (tzi 0) .leaf .leaf)) (.node (tzu) (.node (.tuple #[tzq11, tzi 0]) .leaf .leaf) tzx11)) (.node (tzu) (.node (tzu) (.node (tzs 1 1) (.node (.tuple #[tzi 20, tzi 0]) .leaf .leaf) .leaf) (.node (tzs 12 2) .leaf .leaf)) (.node (tzu) (.node (.agg #[tzq12, tzq10, tzq4, tzs 7 2, tzi 15, tzi 25]) .leaf .leaf) tzx11)))))
noncomputable def tzF7 : Fr := ⟨tzT7, 287, []⟩
noncomputable def tzO7_0 : List (Nat × AObj) := [(46, .row 9 [tzq14, tzq6] true false), (45, .row 35 [tzq12, tzq10, tzq4, tzs 46 2, tzi 15, tzi 25] true false), (44, .row 35 [tzq15, tzq13, tzq6, tzs 43 1, tzi 10, tzi 20] true false), (43, .row 9 [tzq14] true false), (42, .row 35 [tzq15, tzq13, tzq6, tzs 43 1, tzi 10, tzi 20] true false), (41, .row 9 [tzq14, tzq6, tzq16] true true), (40, .row 35 [tzq12, tzq10, tzq4, tzs 29 2, tzi 15, tzi 25] true false), (39, .row 35 [tzq12, tzq10, tzq4, tzs 29 2, tzi 15, tzi 25] true false), (37, .row 35 [tzq15, tzq13, tzq6, tzs 27 1, tzi 10, tzi 20] true false), (36, .row 35 [tzq15, tzq13, tzq6, tzs 27 1, tzi 10, tzi 20] true false), (35, .loopo .exhausted none (.node (tzs 30 2) (.node (tzi 16) (.node (tzu) (.node (tzp 31 0) (.node (tzs 30 2) .leaf .leaf) .leaf) (.node (tzi 0) .leaf .leaf)) (.node (tzi 0) (.node (tzs 30 2) (.node (.func (.func 176) #[] #[tzp 32 0, tzp 33 0]) .leaf .leaf) .leaf) (.node (.bool false) .leaf .leaf))) (.node (tzu) (.node (tzn) (.node (tzu) (.node (tzi 16) .leaf .leaf) .leaf) (.node (tzi 0) .leaf .leaf)) (.node (tzi 0) (.node (tzi 16) .leaf .leaf) .leaf))) 25 (rfIn Tryz.f70).1 (rfIn Tryz.f70).2.1 (rfIn Tryz.f70).2.2 34), (33, .row 3 [tzi 16] true false), (32, .row 43 [tzs 30 2] true false), (31, .row 27 [tzs 41 3] true false), (30, .row 35 [tzq15, tzq13, tzq6, tzs 27 1, tzi 10, tzi 20, tzq12, tzq10, tzq4, tzs 29 2, tzi 15, tzi 25] true false), (29, .row 9 [tzq14, tzq6] true false), (28, .row 35 [tzq12, tzq10, tzq4, tzs 29 2, tzi 15, tzi 25] true false), (27, .row 9 [tzq14] true false), (26, .row 35 [tzq15, tzq13, tzq6, tzs 27 1, tzi 10, tzi 20] true false), (25, .row 9 [tzq6, tzq4] true true), (24, .row 9 [tzq4] true false), (23, .row 35 [tzq12, tzq10, tzq4, tzs 11 2, tzi 15, tzi 25] true false), (22, .row 35 [tzq12, tzq10, tzq4, tzs 11 2, tzi 15, tzi 25] true false), (20, .row 9 [tzq6] true false), (19, .row 35 [tzq15, tzq13, tzq6, tzs 9 1, tzi 10, tzi 20] true false), (18, .row 35 [tzq15, tzq13, tzq6, tzs 9 1, tzi 10, tzi 20] true false), (17, .loopo .exhausted none (.node (tzs 12 2) (.node (tzi 16) (.node (tzu) (.node (tzs 12 2) .leaf .leaf) .leaf) (.node (tzp 13 0) (.node (.func (.func 176) #[] #[tzp 14 0, tzp 15 0]) .leaf .leaf) .leaf)) (.node (tzu) (.node (tzn) (.node (tzi 16) .leaf .leaf) .leaf) .leaf)) 18 (rfIn Tryz.f140).1 (rfIn Tryz.f140).2.1 (rfIn Tryz.f140).2.2 16), (15, .row 3 [tzi 16] true false), (14, .row 43 [tzs 12 2] true false), (13, .row 27 [tzs 25 2] true false), (12, .row 35 [tzq15, tzq13, tzq6, tzs 9 1, tzi 10, tzi 20, tzq12, tzq10, tzq4, tzs 11 2, tzi 15, tzi 25] true false), (11, .row 9 [tzq14, tzq6] true false), (10, .row 35 [tzq12, tzq10, tzq4, tzs 11 2, tzi 15, tzi 25] true false), (9, .row 9 [tzq14] true false), (8, .row 35 [tzq15, tzq13, tzq6, tzs 9 1, tzi 10, tzi 20] true false), (7, .row 9 [tzq14, tzq6] true false), (6, .row 35 [tzq12, tzq10, tzq4, tzs 7 2, tzi 15, tzi 25] true false), (5, .row 9 [tzq14, tzq6] true false), (4, .row 35 [tzq12, tzq10, tzq4, tzs 5 2, tzi 15, tzi 25] true false), (3, .row 9 [tzq14] true false)]
noncomputable def tzO7_1 : List (Nat × AObj) := [(2, .row 35 [tzq15, tzq13, tzq6, tzs 3 1, tzi 10, tzi 20] true false), (1, .row 94 [tzi 0, tzi 50, tzi 1] true false)]
noncomputable def tzL7 : List (Nat × AObj) := tzO7_0 ++ tzO7_1
noncomputable def tzH7 : Heap := ⟨47, 1, tzL7⟩
noncomputable def tzT11 : Tr := (.node (.bool false) (.node (tzs 1 1) (.node (tzi 0) (.node (tzi 0) (.node (tzp 54 0) (.node (tzu) tzx19 (.node (.bool false) .leaf .leaf)) tzx117) tzx138) (.node (tzi 0) (.node (tzu) (.node (tzu) tzx38 (.node (.bool false) .leaf .leaf)) tzx93) (.node (tzu) tzx125 (.node (.agg #[tzq15, tzq13, tzq6, tzs 27 1, tzi 10, tzi 20]) (.node (tzi 0) .leaf .leaf) (.node (.bool false) .leaf .leaf))))) (.node (tzi 0) (.node (tzi 0) (.node (tzu) (.node (tzu) tzx100 (.node (tzq11) .leaf .leaf)) tzx114) (.node (tzu) tzx142 (.node (tzi 0) (.node (tzi 0) .leaf .leaf) (.node (tzi 15) .leaf .leaf)))) (.node (tzi 2) (.node (tzu) (.node (.agg #[tzi 0, tzi 50, tzi 1]) tzx91 (.node (tzq16) .leaf .leaf)) tzx115) (.node (tzu) tzx83 (.node (tzs 30 2) (.node (tzi 0) .leaf .leaf) (.node (tzi 2) .leaf .leaf)))))) (.node (tzq11) (.node (tzq16) (.node (tzs 41 2) (.node (tzu) (.node (tzu) tzx0 (.node (.bool false) .leaf .leaf)) tzx81) (.node (tzu) tzx112 (.node (tzs 25 2) (.node (tzi 0) .leaf .leaf) (.node (.bool false) .leaf .leaf)))) (.node (tzi 15) (.node (tzu) (.node (.agg #[tzi 0, tzi 50]) tzx37 (.node (.bool false) .leaf .leaf)) tzx139) (.node (tzu) tzx140 (.node (.agg #[tzq12, tzq10, tzq4, tzs 29 2, tzi 15, tzi 25]) (.node (tzi 0) .leaf .leaf) (.node (.bool false) .leaf .leaf))))) (.node (tzs 25 2) (.node (tzi 20) (.node (tzu) (.node (tzu) tzx129 (.node (.bool false) .leaf .leaf)) tzx120) (.node (tzu) tzx134 tzx57)) (.node (tzi 0) (.node (tzu) (.node (tzs 1 1) tzx27 (.node (.bool false) .leaf .leaf)) tzx59) (.node (tzu) tzx124 tzx57)))))
noncomputable def tzF11 : Fr := ⟨tzT11, 287, []⟩
noncomputable def tzO11_0 : List (Nat × AObj) := [(67, .row 35 [tzq15, tzq13, tzq6, tzs 66 1, tzi 10, tzi 20] true false), (66, .row 9 [tzq14] true false), (65, .row 35 [tzq15, tzq13, tzq6, tzs 66 1, tzi 10, tzi 20] true false), (64, .row 9 [tzq14, tzq6] true false), (63, .row 35 [tzq12, tzq10, tzq4, tzs 64 2, tzi 15, tzi 25] true false), (62, .row 35 [tzq15, tzq13, tzq6, tzs 61 1, tzi 10, tzi 20] true false), (61, .row 9 [tzq14] true false), (60, .row 35 [tzq15, tzq13, tzq6, tzs 61 1, tzi 10, tzi 20] true false), (59, .row 35 [tzq15, tzq13, tzq6, tzs 58 1, tzi 10, tzi 20, tzq17, tzq10, tzq4, tzn, tzi 30, tzi 40] true false), (58, .row 9 [tzq14] true false), (57, .row 35 [tzq15, tzq13, tzq6, tzs 58 1, tzi 10, tzi 20] true false), (56, .row 9 [tzq14, tzq6] true false), (55, .row 9 [tzq6, tzq4] true false), (54, .row 35 [tzq12, tzq10, tzq4, tzn, tzi 15, tzi 25] true false), (53, .row 9 [tzq14, tzq6] true false), (52, .row 35 [tzq12, tzq10, tzq4, tzs 53 2, tzi 15, tzi 25] true false), (51, .row 35 [tzq15, tzq13, tzq6, tzs 48 1, tzi 10, tzi 20, tzq12, tzq10, tzq4, tzs 50 2, tzi 15, tzi 25, tzq17, tzq10, tzq4, tzn, tzi 30, tzi 40] true false), (50, .row 9 [tzq14, tzq6] true false), (49, .row 35 [tzq12, tzq10, tzq4, tzs 50 2, tzi 15, tzi 25] true false), (48, .row 9 [tzq14] true false), (47, .row 35 [tzq15, tzq13, tzq6, tzs 48 1, tzi 10, tzi 20] true false)]
noncomputable def tzL11 : List (Nat × AObj) := tzO11_0 ++ tzL7
noncomputable def tzH11 : Heap := ⟨68, 1, tzL11⟩
noncomputable def tzT14 : Tr := (.node (.bool false) (.node (tzs 1 1) (.node (tzi 0) (.node (tzi 0) (.node (tzp 54 0) tzx88 tzx117) tzx138) (.node (tzi 0) tzx144 (.node (tzu) tzx125 tzx121))) (.node (tzi 0) (.node (tzi 0) tzx145 (.node (tzu) tzx142 tzx99)) (.node (tzi 2) tzx146 (.node (tzu) tzx83 tzx75)))) (.node (tzq11) (.node (tzq16) (.node (tzs 41 2) (.node (tzs 92 2) tzx60 tzx81) (.node (tzu) tzx112 tzx86)) (.node (tzi 15) tzx147 (.node (tzu) tzx140 tzx113))) (.node (tzs 25 2) (.node (tzi 20) tzx148 (.node (tzu) tzx134 tzx94)) (.node (tzi 0) (.node (tzu) tzx89 tzx59) (.node (tzu) tzx124 tzx119)))))
noncomputable def tzF14 : Fr := ⟨tzT14, 287, []⟩
noncomputable def tzO14_0 : List (Nat × AObj) := [(157, .row 9 [tzq2] true true), (156, .row 9 [tzq2] true false), (155, .row 156 [tzq8, .bool false, tzs 109 2] true false), (154, .row 9 [tzq1] true true), (153, .row 9 [tzq1] true false), (152, .row 156 [tzq2, .bool true, tzs 108 2] true false), (151, .row 9 [tzq1] true true), (150, .row 9 [tzq1] true false), (149, .row 156 [tzq3, .bool false, tzs 107 2] true false), (148, .row 158 [.map (some 147)] true false), (147, .mapo [⟨tzq1, .bool true, 0⟩, ⟨tzq3, .bool false, 1⟩, ⟨tzq2, .bool true, 2⟩, ⟨tzq8, .bool false, 3⟩] 4), (146, .row 72 [tzs 103 2, tzs 106 3, tzs 110 3] true false), (145, .row 9 [tzq1] true true), (144, .row 27 [tzs 143 1, tzn] true false), (143, .row 9 [tzq1] true true), (142, .row 27 [tzs 129 0, .slice (some ⟨129, 1, none⟩) 1 0] true false), (141, .row 156 [tzq8, .bool false, tzs 109 2] true false), (140, .row 156 [tzq2, .bool true, tzs 108 2] true false), (139, .row 9 [tzq5] true true), (138, .row 9 [tzq5] true false), (137, .row 156 [tzq3, .bool false, tzs 107 2] true false), (136, .row 158 [.map (some 135)] true false), (135, .mapo [⟨tzq5, .bool true, 0⟩, ⟨tzq3, .bool false, 1⟩, ⟨tzq2, .bool false, 2⟩, ⟨tzq8, .bool false, 3⟩] 4), (134, .row 72 [tzs 103 2, tzs 106 3, tzs 110 3] true false), (133, .row 9 [tzq5] true true), (132, .row 27 [tzs 131 1, tzn] true false), (131, .row 9 [tzq5] true true), (130, .row 27 [tzs 129 1, .slice (some ⟨0, 0, none⟩) 0 2] true false), (129, .row 9 [tzq5, tzq1] true true), (128, .row 9 [] true false), (127, .row 72 [tzs 103 2, tzs 106 3, tzs 110 3] true false), (126, .row 9 [tzq5, tzq1] true true), (125, .row 9 [tzq1] true false), (124, .row 155 [tzq1, tzn] true false), (122, .row 9 [tzq5] true false), (121, .row 155 [tzq5, tzs 104 1] true false), (120, .row 155 [tzq5, tzs 104 1, tzq1, tzn] true true), (119, .row 155 [tzq1, tzn] true false), (118, .row 155 [tzq1, tzn] true false), (117, .row 155 [tzq9, tzs 105 2] true false)]
noncomputable def tzO14_1 : List (Nat × AObj) := [(115, .row 155 [tzq5, tzs 104 1] true false), (114, .row 155 [tzq5, tzs 104 1] true false), (113, .row 72 [tzs 103 2, tzs 106 3, tzs 110 3] true false), (112, .row 72 [tzs 103 2, tzs 106 3, tzs 110 3] true false), (111, .row 72 [tzs 103 2, tzs 106 3, tzs 110 3] true false), (110, .row 156 [tzq3, .bool false, tzs 107 2, tzq2, .bool true, tzs 108 2, tzq8, .bool false, tzs 109 2] true false), (109, .row 9 [tzq3, tzq2] true false), (108, .row 9 [tzq9, tzq1] true false), (107, .row 9 [tzq5, tzq1] true false), (106, .row 155 [tzq5, tzs 104 1, tzq9, tzs 105 2, tzq1, tzn] true false), (105, .row 153 [tzq7, tzi 1, tzq0, tzi 1] true false), (104, .row 153 [tzq0, tzi 2] true false), (103, .row 153 [tzq0, tzi 2, tzq7, tzi 1] true false), (102, .row 72 [tzs 103 2, tzs 106 3, tzs 110 3] true false), (101, .row 156 [tzq3, .bool false, tzs 98 2, tzq2, .bool true, tzs 99 2, tzq8, .bool false, tzs 100 2] true false), (100, .row 9 [tzq3, tzq2] true false), (99, .row 9 [tzq9, tzq1] true false), (98, .row 9 [tzq5, tzq1] true false), (97, .row 155 [tzq5, tzs 95 1, tzq9, tzs 96 2, tzq1, tzn] true false), (96, .row 153 [tzq7, tzi 1, tzq0, tzi 1] true false), (95, .row 153 [tzq0, tzi 2] true false), (94, .row 153 [tzq0, tzi 2, tzq7, tzi 1] true false), (93, .row 72 [tzs 94 2, tzs 97 3, tzs 101 3] true false), (92, .row 9 [tzq5, tzq1] true true), (91, .row 9 [tzq1] true false), (90, .row 155 [tzq1, tzn] true false), (88, .row 9 [tzq5] true false), (87, .row 155 [tzq5, tzs 70 1] true false), (86, .row 155 [tzq5, tzs 70 1, tzq1, tzn] true true), (85, .row 155 [tzq1, tzn] true false), (84, .row 155 [tzq1, tzn] true false), (83, .row 155 [tzq9, tzs 71 2] true false), (81, .row 155 [tzq5, tzs 70 1] true false), (80, .row 155 [tzq5, tzs 70 1] true false), (79, .row 72 [tzs 69 2, tzs 72 3, tzs 76 3] true false), (78, .row 72 [tzs 69 2, tzs 72 3, tzs 76 3] true false), (77, .row 72 [tzs 69 2, tzs 72 3, tzs 76 3] true false), (76, .row 156 [tzq3, .bool false, tzs 73 2, tzq2, .bool true, tzs 74 2, tzq8, .bool false, tzs 75 2] true false), (75, .row 9 [tzq3, tzq2] true false), (74, .row 9 [tzq9, tzq1] true false)]
noncomputable def tzO14_2 : List (Nat × AObj) := [(73, .row 9 [tzq5, tzq1] true false), (72, .row 155 [tzq5, tzs 70 1, tzq9, tzs 71 2, tzq1, tzn] true false), (71, .row 153 [tzq7, tzi 1, tzq0, tzi 1] true false), (70, .row 153 [tzq0, tzi 2] true false), (69, .row 153 [tzq0, tzi 2, tzq7, tzi 1] true false), (68, .row 72 [tzs 69 2, tzs 72 3, tzs 76 3] true false)]
noncomputable def tzL14 : List (Nat × AObj) := tzO14_0 ++ tzO14_1 ++ tzO14_2 ++ tzL11
noncomputable def tzH14 : Heap := ⟨158, 1, tzL14⟩
noncomputable def tzT16 : Tr := (.node (.bool false) (.node (tzs 1 1) (.node (tzi 0) (.node (tzi 0) (.node (tzp 54 0) tzx88 (.node (.agg #[tzq17, tzq10, tzq4, tzn, tzi 30, tzi 40]) tzx5 tzx85)) (.node (tzi 0) (.node (.tuple #[tzq11, tzi 0]) tzx6 tzx42) tzx77)) (.node (tzi 0) tzx144 (.node (tzu) (.node (tzq11) tzx96 (.node (.bool true) (.node (tzi 0) .leaf .leaf) .leaf)) tzx121))) (.node (tzi 0) (.node (tzi 0) tzx145 (.node (tzi 0) (.node (.agg #[tzq12, tzq10, tzq4, tzs 5 2, tzi 15, tzi 25]) tzx106 tzx48) tzx99)) (.node (tzi 2) tzx146 (.node (tzu) (.node (.tuple #[tzq16, tzi 0]) tzx22 tzx73) tzx75)))) (.node (tzq11) (.node (tzq16) (.node (tzs 41 2) (.node (tzs 92 2) tzx60 (.node (.tuple #[tzq16, tzi 0]) tzx1 tzx21)) (.node (tzp 285 0) (.node (.agg #[tzq15, tzq13, tzq6, tzs 3 1, tzi 10, tzi 20]) tzx0 tzx74) tzx86)) (.node (tzi 15) tzx147 (.node (tzu) (.node (tzi 0) tzx128 tzx87) tzx113))) (.node (tzs 25 2) (.node (tzi 20) tzx148 (.node (tzu) (.node (.tuple #[tzq11, tzi 0]) tzx98 tzx39) tzx94)) (.node (tzi 0) (.node (tzs 239 2) tzx89 tzx59) (.node (tzu) (.node (.agg #[tzq12, tzq10, tzq4, tzs 7 2, tzi 15, tzi 25]) tzx36 tzx87) tzx119)))))
noncomputable def tzF16 : Fr := ⟨tzT16, 287, []⟩
noncomputable def tzO16_0 : List (Nat × AObj) := [(285, .row 72 [tzs 254 2, tzs 268 3, tzs 283 3] true false), (284, .row 72 [tzs 254 2, tzs 268 3, tzs 283 3] true false), (283, .row 156 [tzq3, .bool false, tzs 271 2, tzq2, .bool true, tzs 276 2, tzq8, .bool false, tzs 281 2] true true), (282, .row 156 [tzq8, .bool false, tzs 281 2] true false), (281, .row 9 [tzq3, tzq2] true true), (280, .row 9 [] true false), (279, .row 156 [tzq8, .bool false, tzs 247 2] true false), (277, .row 156 [tzq2, .bool true, tzs 276 2] true false), (276, .row 9 [tzq9, tzq1] true true), (275, .row 9 [] true false), (274, .row 156 [tzq2, .bool true, tzs 246 2] true false), (272, .row 156 [tzq3, .bool false, tzs 271 2] true false), (271, .row 9 [tzq5, tzq1] true true), (270, .row 9 [] true false), (269, .row 156 [tzq3, .bool false, tzs 245 2] true false), (268, .row 155 [tzq5, tzs 258 1, tzq9, tzs 263 2, tzq1, tzn] true true), (267, .row 155 [tzq1, tzn] true false), (266, .row 155 [tzq1, tzn] true false), (264, .row 155 [tzq9, tzs 263 2] true false), (263, .row 153 [tzq7, tzi 1, tzq0, tzi 1] true true), (262, .row 153 [] true false), (261, .row 155 [tzq9, tzs 243 2] true false), (259, .row 155 [tzq5, tzs 258 1] true false), (258, .row 153 [tzq0, tzi 2] true true), (257, .row 153 [] true false), (256, .row 155 [tzq5, tzs 242 1] true false), (255, .row 72 [tzs 254 2, tzs 268 3, tzs 283 3] true false), (254, .row 153 [tzq0, tzi 3, tzq7, tzi 1] true false), (253, .row 72 [tzs 254 2, tzs 268 3, tzs 283 3] true false), (252, .row 72 [tzs 241 2, tzs 244 3, tzs 248 3] true false), (251, .row 32 [tzi 0, tzi 0, tzi 0] true false), (250, .row 72 [tzs 254 2, tzs 268 3, tzs 283 3] true false), (249, .row 72 [tzs 241 2, tzs 244 3, tzs 248 3] true false), (248, .row 156 [tzq3, .bool false, tzs 245 2, tzq2, .bool true, tzs 246 2, tzq8, .bool false, tzs 247 2] true false), (247, .row 9 [tzq3, tzq2] true false), (246, .row 9 [tzq9, tzq1] true false), (245, .row 9 [tzq5, tzq1] true false), (244, .row 155 [tzq5, tzs 242 1, tzq9, tzs 243 2, tzq1, tzn] true false), (243, .row 153 [tzq7, tzi 1, tzq0, tzi 1] true false), (242, .row 153 [tzq0, tzi 2] true false)]
noncomputable def tzO16_1 : List (Nat × AObj) := [(241, .row 153 [tzq0, tzi 2, tzq7, tzi 1] true false), (240, .row 72 [tzs 241 2, tzs 244 3, tzs 248 3] true false), (239, .row 9 [tzq3, tzq8] true true), (238, .row 9 [tzq8] true false), (236, .row 9 [tzq3] true false), (235, .row 9 [tzq3, tzq8] true true), (234, .row 9 [tzq8] true false), (233, .row 156 [tzq8, .bool false, tzs 200 2] true false), (232, .row 156 [tzq2, .bool true, tzs 195 2] true false), (230, .row 9 [tzq3] true false), (229, .row 156 [tzq3, .bool false, tzs 190 2] true false), (228, .row 9 [tzq2] true true), (227, .row 9 [tzq2] true false), (226, .row 156 [tzq8, .bool false, tzs 200 2] true false), (225, .row 9 [tzq1] true true), (224, .row 9 [tzq1] true false), (223, .row 156 [tzq2, .bool true, tzs 195 2] true false), (222, .row 9 [tzq1] true true), (221, .row 9 [tzq1] true false), (220, .row 156 [tzq3, .bool false, tzs 190 2] true false), (219, .row 158 [.map (some 218)] true false), (218, .mapo [⟨tzq1, .bool true, 0⟩, ⟨tzq3, .bool false, 1⟩, ⟨tzq2, .bool true, 2⟩, ⟨tzq8, .bool false, 3⟩] 4), (217, .row 72 [tzs 173 2, tzs 187 3, tzs 202 3] true false), (216, .row 9 [tzq1] true true), (215, .row 9 [tzq1] true false), (214, .row 155 [tzq1, tzn] true false), (213, .row 155 [tzq1, tzn] true true), (212, .row 155 [tzq1, tzn] true false), (211, .row 155 [tzq1, tzn] true false), (210, .row 155 [tzq9, tzs 182 2] true false), (209, .row 155 [tzq5, tzs 177 1] true false), (208, .row 72 [tzs 173 2, tzs 187 3, tzs 202 3] true false), (207, .row 72 [tzs 173 2, tzs 187 3, tzs 202 3] true false), (206, .row 72 [tzs 173 2, tzs 187 3, tzs 202 3] true false), (205, .row 27 [tzn] true false), (204, .row 72 [tzs 173 2, tzs 187 3, tzs 202 3] true false), (203, .row 72 [tzs 173 2, tzs 187 3, tzs 202 3] true false), (202, .row 156 [tzq3, .bool false, tzs 190 2, tzq2, .bool true, tzs 195 2, tzq8, .bool false, tzs 200 2] true true), (201, .row 156 [tzq8, .bool false, tzs 200 2] true false), (200, .row 9 [tzq3, tzq2] true true)]
noncomputable def tzO16_2 : List (Nat × AObj) := [(199, .row 9 [] true false), (198, .row 156 [tzq8, .bool false, tzs 165 2] true false), (196, .row 156 [tzq2, .bool true, tzs 195 2] true false), (195, .row 9 [tzq9, tzq1] true true), (194, .row 9 [] true false), (193, .row 156 [tzq2, .bool true, tzs 164 2] true false), (191, .row 156 [tzq3, .bool false, tzs 190 2] true false), (190, .row 9 [tzq5, tzq1] true true), (189, .row 9 [] true false), (188, .row 156 [tzq3, .bool false, tzs 163 2] true false), (187, .row 155 [tzq5, tzs 177 1, tzq9, tzs 182 2, tzq1, tzn] true true), (186, .row 155 [tzq1, tzn] true false), (185, .row 155 [tzq1, tzn] true false), (183, .row 155 [tzq9, tzs 182 2] true false), (182, .row 153 [tzq7, tzi 1, tzq0, tzi 1] true true), (181, .row 153 [] true false), (180, .row 155 [tzq9, tzs 161 2] true false), (178, .row 155 [tzq5, tzs 177 1] true false), (177, .row 153 [tzq0, tzi 2] true true), (176, .row 153 [] true false), (175, .row 155 [tzq5, tzs 160 1] true false), (174, .row 72 [tzs 173 2, tzs 187 3, tzs 202 3] true false), (173, .row 153 [tzq0, tzi 3, tzq7, tzi 1] true false), (172, .row 72 [tzs 173 2, tzs 187 3, tzs 202 3] true false), (171, .row 72 [tzs 159 2, tzs 162 3, tzs 166 3] true false), (170, .row 32 [tzi 0, tzi 0, tzi 0] true false), (169, .row 72 [tzs 173 2, tzs 187 3, tzs 202 3] true false), (168, .row 72 [tzs 159 2, tzs 162 3, tzs 166 3] true false), (167, .row 72 [tzs 159 2, tzs 162 3, tzs 166 3] true false), (166, .row 156 [tzq3, .bool false, tzs 163 2, tzq2, .bool true, tzs 164 2, tzq8, .bool false, tzs 165 2] true false), (165, .row 9 [tzq3, tzq2] true false), (164, .row 9 [tzq9, tzq1] true false), (163, .row 9 [tzq5, tzq1] true false), (162, .row 155 [tzq5, tzs 160 1, tzq9, tzs 161 2, tzq1, tzn] true false), (161, .row 153 [tzq7, tzi 1, tzq0, tzi 1] true false), (160, .row 153 [tzq0, tzi 2] true false), (159, .row 153 [tzq0, tzi 2, tzq7, tzi 1] true false), (158, .row 72 [tzs 159 2, tzs 162 3, tzs 166 3] true false)]
noncomputable def tzL16 : List (Nat × AObj) := tzO16_0 ++ tzO16_1 ++ tzO16_2 ++ tzL14
noncomputable def tzH16 : Heap := ⟨286, 1, tzL16⟩
noncomputable def tzT18 : Tr := (.node (.bool false) (.node (tzs 1 1) (.node (tzi 0) (.node (tzi 0) (.node (tzp 54 0) (.node (tzu) tzx45 tzx24) (.node (.agg #[tzq17, tzq10, tzq4, tzn, tzi 30, tzi 40]) tzx28 tzx85)) (.node (tzi 0) (.node (.tuple #[tzq11, tzi 0]) tzx34 tzx42) tzx102)) (.node (tzi 0) (.node (tzi 0) (.node (tzu) tzx66 tzx72) tzx132) (.node (tzi 0) (.node (tzq11) tzx108 (.node (.bool true) (.node (tzi 0) .leaf .leaf) .leaf)) tzx133))) (.node (tzi 0) (.node (tzi 0) (.node (tzi 0) (.node (tzu) tzx111 tzx18) (.node (tzq16) tzx104 (.node (.bool true) tzx15 .leaf))) (.node (tzi 0) (.node (.agg #[tzq12, tzq10, tzq4, tzs 5 2, tzi 15, tzi 25]) tzx118 tzx48) tzx126)) (.node (tzi 2) (.node (tzi 0) (.node (.agg #[tzi 0, tzi 50, tzi 1]) tzx103 tzx26) tzx130) (.node (tzu) (.node (.tuple #[tzq16, tzi 0]) tzx56 tzx73) tzx101)))) (.node (tzq11) (.node (tzq16) (.node (tzs 41 2) (.node (tzs 92 2) (.node (tzu) tzx31 (.node (.bool false) (.node (.bool true) .leaf .leaf) .leaf)) (.node (.tuple #[tzq16, tzi 0]) tzx32 tzx21)) (.node (tzp 285 0) (.node (.agg #[tzq15, tzq13, tzq6, tzs 3 1, tzi 10, tzi 20]) tzx29 tzx74) tzx107)) (.node (tzi 15) (.node (tzs 129 2) (.node (.agg #[tzi 0, tzi 50]) tzx65 tzx41) tzx143) (.node (tzu) (.node (tzi 0) tzx135 tzx87) tzx127))) (.node (tzs 25 2) (.node (tzi 20) (.node (.bool true) (.node (tzu) tzx136 tzx41) (.node (tzi 0) tzx109 (.node (.bool false) tzx55 .leaf))) (.node (tzs 315 1) (.node (.tuple #[tzq11, tzi 0]) tzx110 tzx39) tzx122)) (.node (tzi 0) (.node (tzs 239 2) (.node (tzs 1 1) tzx47 tzx3) tzx92) (.node (tzu) (.node (.agg #[tzq12, tzq10, tzq4, tzs 7 2, tzi 15, tzi 25]) tzx64 tzx87) (.node (.tuple #[tzs 41 2, tzi 0]) tzx71 tzx3))))))
noncomputable def tzF18 : Fr := ⟨tzT18, 287, []⟩
noncomputable def tzO18_0 : List (Nat × AObj) := [(319, .row 9 [tzq1] true false), (318, .row 9 [tzq3, tzq8] true false), (317, .row 9 [tzq5, tzq1] true false), (316, .row 9 [tzq5, tzq1] true false), (315, .row 9 [tzq1] true true), (314, .row 9 [tzq1] true false), (313, .row 27 [tzs 310 2] true false), (312, .row 9 [tzq2] true false), (311, .row 72 [tzs 287 2, tzs 290 3, tzs 294 3] true false), (310, .row 9 [tzq5, tzq1] true true), (309, .row 9 [tzq1] true false), (308, .row 155 [tzq1, tzn] true false), (306, .row 9 [tzq5] true false), (305, .row 155 [tzq5, tzs 288 1] true false), (304, .row 155 [tzq5, tzs 288 1, tzq1, tzn] true true), (303, .row 155 [tzq1, tzn] true false), (302, .row 155 [tzq1, tzn] true false), (301, .row 155 [tzq9, tzs 289 2] true false), (299, .row 155 [tzq5, tzs 288 1] true false), (298, .row 155 [tzq5, tzs 288 1] true false), (297, .row 72 [tzs 287 2, tzs 290 3, tzs 294 3] true false), (296, .row 72 [tzs 287 2, tzs 290 3, tzs 294 3] true false), (295, .row 72 [tzs 287 2, tzs 290 3, tzs 294 3] true false), (294, .row 156 [tzq3, .bool false, tzs 291 2, tzq2, .bool true, tzs 292 2, tzq8, .bool false, tzs 293 2] true false), (293, .row 9 [tzq3, tzq2] true false), (292, .row 9 [tzq9, tzq1] true false), (291, .row 9 [tzq5, tzq1] true false), (290, .row 155 [tzq5, tzs 288 1, tzq9, tzs 289 2, tzq1, tzn] true false), (289, .row 153 [tzq7, tzi 1, tzq0, tzi 1] true false), (288, .row 153 [tzq0, tzi 2] true false), (287, .row 153 [tzq0, tzi 2, tzq7, tzi 1] true false), (286, .row 72 [tzs 287 2, tzs 290 3, tzs 294 3] true false)]
noncomputable def tzL18 : List (Nat × AObj) := tzO18_0 ++ tzL16
noncomputable def tzH18 : Heap := ⟨320, 1, tzL18⟩
noncomputable def tzT21 : Tr := (.node (.bool false) (.node (tzs 1 1) (.node (tzi 0) (.node (tzi 0) (.node (tzp 54 0) (.node (tzi 0) tzx45 (.node (.bool false) (.node (.tuple #[.bool true, tzi 0]) .leaf .leaf) tzx52)) (.node (.agg #[tzq17, tzq10, tzq4, tzn, tzi 30, tzi 40]) tzx28 (.node (tzs 41 2) tzx52 (.node (.agg #[tzs 648 2, tzs 669 3, tzs 684 3]) .leaf .leaf)))) (.node (tzi 0) (.node (.tuple #[tzq11, tzi 0]) tzx34 (.node (.bool false) tzx14 (.node (.agg #[tzs 482 2, tzs 503 3, tzs 518 3]) .leaf .leaf))) tzx102)) (.node (tzi 0) (.node (tzi 0) (.node (tzu) tzx66 (.node (.bool false) tzx51 (.node (tzs 440 1) .leaf .leaf))) tzx132) (.node (tzi 0) (.node (tzq11) tzx108 (.node (.bool true) (.node (tzi 0) .leaf .leaf) (.node (tzi 0) .leaf .leaf))) tzx133))) (.node (tzi 0) (.node (tzi 0) (.node (tzi 0) (.node (tzi 0) tzx111 (.node (tzq11) (.node (tzi 0) .leaf .leaf) (.node (.agg #[tzs 373 2, tzs 394 3, tzs 409 3]) .leaf .leaf))) (.node (tzq16) tzx104 (.node (.bool true) tzx15 (.node (.agg #[tzs 689 2, tzs 703 3, tzs 718 3]) .leaf .leaf)))) (.node (tzi 0) (.node (.agg #[tzq12, tzq10, tzq4, tzs 5 2, tzi 15, tzi 25]) tzx118 (.node (tzs 25 2) tzx14 tzx16)) tzx126)) (.node (tzi 2) (.node (tzi 0) (.node (.agg #[tzi 0, tzi 50, tzi 1]) tzx103 (.node (tzq16) (.node (tzs 129 2) .leaf .leaf) tzx16)) tzx130) (.node (tzi 0) (.node (.tuple #[tzq16, tzi 0]) tzx56 (.node (.bool false) tzx53 tzx52)) tzx101)))) (.node (tzq11) (.node (tzq16) (.node (tzs 41 2) (.node (tzs 92 2) (.node (tzp 722 0) tzx31 (.node (.bool false) (.node (.bool true) .leaf .leaf) (.node (.agg #[tzs 328 2, tzs 349 3, tzs 364 3]) .leaf .leaf))) (.node (.tuple #[tzq16, tzi 0]) tzx32 (.node (tzs 56 2) (.node (tzi 0) .leaf .leaf) tzx69))) (.node (tzp 285 0) (.node (.agg #[tzq15, tzq13, tzq6, tzs 3 1, tzi 10, tzi 20]) tzx29 (.node (.bool false) tzx54 (.node (.agg #[tzs 527 2, tzs 548 3, tzs 563 3]) .leaf .leaf))) tzx107)) (.node (tzi 15) (.node (tzs 129 2) (.node (.agg #[tzi 0, tzi 50]) tzx65 (.node (.bool false) tzx13 (.node (tzi 0) .leaf .leaf))) tzx143) (.node (tzs 440 1) (.node (tzi 0) tzx135 (.node (.bool false) tzx67 tzx69)) tzx127))) (.node (tzs 25 2) (.node (tzi 20) (.node (.bool true) (.node (tzu) tzx136 (.node (.bool false) tzx13 tzx17)) (.node (tzi 0) tzx109 (.node (.bool false) tzx55 (.node (tzi 0) .leaf .leaf)))) (.node (tzs 315 1) (.node (.tuple #[tzq11, tzi 0]) tzx110 (.node (tzs 55 2) (.node (tzs 239 2) .leaf .leaf) (.node (tzs 594 2) .leaf .leaf))) tzx122)) (.node (tzi 0) (.node (tzs 239 2) (.node (tzs 1 1) tzx47 (.node (.bool false) (.node (tzi 0) .leaf .leaf) tzx52)) tzx92) (.node (tzs 594 2) (.node (.agg #[tzq12, tzq10, tzq4, tzs 7 2, tzi 15, tzi 25]) tzx64 (.node (.bool false) tzx67 (.node (.agg #[tzs 603 2, tzs 624 3, tzs 639 3]) .leaf .leaf))) (.node (.tuple #[tzs 41 2, tzi 0]) (.node (tzi 0) tzx50 tzx17) tzx3))))))
noncomputable def tzF21 : Fr := ⟨tzT21, 287, []⟩
noncomputable def tzO21_0 : List (Nat × AObj) := [(722, .row 72 [tzs 689 2, tzs 703 3, tzs 718 3] true false), (721, .row 153 [tzq0, tzi 2] true false), (720, .row 155 [tzq5, tzs 693 1] true false), (719, .row 72 [tzs 689 2, tzs 703 3, tzs 718 3] true false), (718, .row 156 [tzq3, .bool false, tzs 706 2, tzq2, .bool true, tzs 711 2, tzq8, .bool false, tzs 716 2] true true), (717, .row 156 [tzq8, .bool false, tzs 716 2] true false), (716, .row 9 [tzq3, tzq2] true true), (715, .row 9 [] true false), (714, .row 156 [tzq8, .bool false, tzs 682 2] true false), (712, .row 156 [tzq2, .bool true, tzs 711 2] true false), (711, .row 9 [tzq9, tzq1] true true), (710, .row 9 [] true false), (709, .row 156 [tzq2, .bool true, tzs 677 2] true false), (707, .row 156 [tzq3, .bool false, tzs 706 2] true false), (706, .row 9 [tzq5, tzq1] true true), (705, .row 9 [] true false), (704, .row 156 [tzq3, .bool false, tzs 672 2] true false), (703, .row 155 [tzq5, tzs 693 1, tzq9, tzs 698 2, tzq1, tzn] true true), (702, .row 155 [tzq1, tzn] true false), (701, .row 155 [tzq1, tzn] true false), (699, .row 155 [tzq9, tzs 698 2] true false), (698, .row 153 [tzq7, tzi 1, tzq0, tzi 1] true true), (697, .row 153 [] true false), (696, .row 155 [tzq9, tzs 663 2] true false), (694, .row 155 [tzq5, tzs 693 1] true false), (693, .row 153 [tzq0, tzi 3] true true), (692, .row 153 [] true false), (691, .row 155 [tzq5, tzs 653 1] true false), (690, .row 72 [tzs 689 2, tzs 703 3, tzs 718 3] true false), (689, .row 153 [tzq0, tzi 3, tzq7, tzi 1] true false), (688, .row 72 [tzs 689 2, tzs 703 3, tzs 718 3] true false), (687, .row 72 [tzs 648 2, tzs 669 3, tzs 684 3] true false), (686, .row 72 [tzs 689 2, tzs 703 3, tzs 718 3] true false), (685, .row 72 [tzs 648 2, tzs 669 3, tzs 684 3] true false), (684, .row 156 [tzq3, .bool false, tzs 672 2, tzq2, .bool true, tzs 677 2, tzq8, .bool false, tzs 682 2] true true), (683, .row 156 [tzq8, .bool false, tzs 682 2] true false), (682, .row 9 [tzq3, tzq2] true true), (681, .row 9 [] true false), (680, .row 109 [tzq8, .bool false, tzs 637 2] true false), (678, .row 156 [tzq2, .bool true, tzs 677 2] true false)]
noncomputable def tzO21_1 : List (Nat × AObj) := [(677, .row 9 [tzq9, tzq1] true true), (676, .row 9 [] true false), (675, .row 109 [tzq2, .bool true, tzs 632 2] true false), (673, .row 156 [tzq3, .bool false, tzs 672 2] true false), (672, .row 9 [tzq5, tzq1] true true), (671, .row 9 [] true false), (670, .row 109 [tzq3, .bool false, tzs 627 2] true false), (669, .row 155 [tzq5, tzs 653 1, tzq9, tzs 663 2, tzq1, tzn] true true), (668, .row 155 [tzq1, tzn] true false), (667, .row 155 [tzq1, tzn] true false), (666, .row 96 [tzq1, tzn] true false), (664, .row 155 [tzq9, tzs 663 2] true false), (663, .row 153 [tzq7, tzi 1, tzq0, tzi 1] true true), (662, .row 153 [tzq0, tzi 1] true false), (661, .row 99 [tzq0, tzi 1] true false), (659, .row 153 [tzq7, tzi 1] true false), (658, .row 99 [tzq7, tzi 1] true false), (657, .row 155 [tzq9, tzs 663 2] true false), (656, .row 96 [tzq9, tzs 618 2] true false), (654, .row 155 [tzq5, tzs 653 1] true false), (653, .row 153 [tzq0, tzi 2] true true), (652, .row 153 [tzq0, tzi 2] true false), (651, .row 99 [tzq0, tzi 2] true false), (650, .row 155 [tzq5, tzs 653 1] true false), (649, .row 96 [tzq5, tzs 608 1] true false), (648, .row 153 [tzq0, tzi 3, tzq7, tzi 1] true true), (647, .row 153 [tzq7, tzi 1] true false), (646, .row 99 [tzq7, tzi 1] true false), (644, .row 153 [tzq0, tzi 3] true false), (643, .row 99 [tzq0, tzi 3] true false), (642, .row 72 [tzs 648 2, tzs 669 3, tzs 684 3] true false), (641, .row 72 [tzs 648 2, tzs 669 3, tzs 684 3] true false), (640, .row 64 [tzs 603 2, tzs 624 3, tzs 639 3] true false), (639, .row 109 [tzq3, .bool false, tzs 627 2, tzq2, .bool true, tzs 632 2, tzq8, .bool false, tzs 637 2] true true), (638, .row 109 [tzq8, .bool false, tzs 637 2] true false), (637, .row 9 [tzq3, tzq2] true true), (636, .row 9 [] true false), (635, .row 156 [tzq8, .bool false, tzs 281 2] true false), (633, .row 109 [tzq2, .bool true, tzs 632 2] true false), (632, .row 9 [tzq9, tzq1] true true)]
noncomputable def tzO21_2 : List (Nat × AObj) := [(631, .row 9 [] true false), (630, .row 156 [tzq2, .bool true, tzs 276 2] true false), (628, .row 109 [tzq3, .bool false, tzs 627 2] true false), (627, .row 9 [tzq5, tzq1] true true), (626, .row 9 [] true false), (625, .row 156 [tzq3, .bool false, tzs 271 2] true false), (624, .row 96 [tzq5, tzs 608 1, tzq9, tzs 618 2, tzq1, tzn] true true), (623, .row 96 [tzq1, tzn] true false), (622, .row 96 [tzq1, tzn] true false), (621, .row 155 [tzq1, tzn] true false), (619, .row 96 [tzq9, tzs 618 2] true false), (618, .row 99 [tzq7, tzi 1, tzq0, tzi 1] true true), (617, .row 99 [tzq0, tzi 1] true false), (616, .row 153 [tzq0, tzi 1] true false), (614, .row 99 [tzq7, tzi 1] true false), (613, .row 153 [tzq7, tzi 1] true false), (612, .row 96 [tzq9, tzs 618 2] true false), (611, .row 155 [tzq9, tzs 263 2] true false), (609, .row 96 [tzq5, tzs 608 1] true false), (608, .row 99 [tzq0, tzi 2] true true), (607, .row 99 [tzq0, tzi 2] true false), (606, .row 153 [tzq0, tzi 2] true false), (605, .row 96 [tzq5, tzs 608 1] true false), (604, .row 155 [tzq5, tzs 258 1] true false), (603, .row 99 [tzq0, tzi 3, tzq7, tzi 1] true true), (602, .row 99 [tzq7, tzi 1] true false), (601, .row 153 [tzq7, tzi 1] true false), (599, .row 99 [tzq0, tzi 3] true false), (598, .row 153 [tzq0, tzi 3] true false), (597, .row 64 [tzs 603 2, tzs 624 3, tzs 639 3] true false), (596, .row 64 [tzs 603 2, tzs 624 3, tzs 639 3] true false), (595, .row 72 [tzs 254 2, tzs 268 3, tzs 283 3] true false), (594, .row 9 [tzq3, tzq8] true true), (593, .row 9 [tzq8] true false), (592, .row 156 [tzq8, .bool false, tzs 561 2] true false), (591, .row 156 [tzq2, .bool true, tzs 556 2] true false), (589, .row 9 [tzq3] true false), (588, .row 156 [tzq3, .bool false, tzs 551 2] true false), (587, .row 9 [tzq2] true true), (586, .row 9 [tzq2] true false)]
noncomputable def tzO21_3 : List (Nat × AObj) := [(585, .row 156 [tzq8, .bool false, tzs 561 2] true false), (584, .row 9 [tzq1] true true), (583, .row 9 [tzq1] true false), (582, .row 156 [tzq2, .bool true, tzs 556 2] true false), (581, .row 9 [tzq1] true true), (580, .row 9 [tzq1] true false), (579, .row 156 [tzq3, .bool false, tzs 551 2] true false), (578, .row 158 [.map (some 577)] true false), (577, .mapo [⟨tzq1, .bool true, 0⟩, ⟨tzq3, .bool false, 1⟩, ⟨tzq2, .bool true, 2⟩, ⟨tzq8, .bool false, 3⟩] 4), (576, .row 72 [tzs 527 2, tzs 548 3, tzs 563 3] true false), (575, .row 9 [tzq1] true true), (574, .row 9 [tzq1] true false), (573, .row 155 [tzq1, tzn] true false), (572, .row 155 [tzq1, tzn] true true), (571, .row 155 [tzq1, tzn] true false), (570, .row 155 [tzq1, tzn] true false), (569, .row 155 [tzq9, tzs 542 2] true false), (568, .row 155 [tzq5, tzs 532 1] true false), (567, .row 72 [tzs 527 2, tzs 548 3, tzs 563 3] true false), (566, .row 72 [tzs 527 2, tzs 548 3, tzs 563 3] true false), (565, .row 72 [tzs 527 2, tzs 548 3, tzs 563 3] true false), (564, .row 72 [tzs 527 2, tzs 548 3, tzs 563 3] true false), (563, .row 156 [tzq3, .bool false, tzs 551 2, tzq2, .bool true, tzs 556 2, tzq8, .bool false, tzs 561 2] true true), (562, .row 156 [tzq8, .bool false, tzs 561 2] true false), (561, .row 9 [tzq3, tzq2] true true), (560, .row 9 [] true false), (559, .row 109 [tzq8, .bool false, tzs 516 2] true false), (557, .row 156 [tzq2, .bool true, tzs 556 2] true false), (556, .row 9 [tzq9, tzq1] true true), (555, .row 9 [] true false), (554, .row 109 [tzq2, .bool true, tzs 511 2] true false), (552, .row 156 [tzq3, .bool false, tzs 551 2] true false), (551, .row 9 [tzq5, tzq1] true true), (550, .row 9 [] true false), (549, .row 109 [tzq3, .bool false, tzs 506 2] true false), (548, .row 155 [tzq5, tzs 532 1, tzq9, tzs 542 2, tzq1, tzn] true true), (547, .row 155 [tzq1, tzn] true false), (546, .row 155 [tzq1, tzn] true false), (545, .row 96 [tzq1, tzn] true false), (543, .row 155 [tzq9, tzs 542 2] true false)]
noncomputable def tzO21_4 : List (Nat × AObj) := [(542, .row 153 [tzq7, tzi 1, tzq0, tzi 1] true true), (541, .row 153 [tzq0, tzi 1] true false), (540, .row 99 [tzq0, tzi 1] true false), (538, .row 153 [tzq7, tzi 1] true false), (537, .row 99 [tzq7, tzi 1] true false), (536, .row 155 [tzq9, tzs 542 2] true false), (535, .row 96 [tzq9, tzs 497 2] true false), (533, .row 155 [tzq5, tzs 532 1] true false), (532, .row 153 [tzq0, tzi 2] true true), (531, .row 153 [tzq0, tzi 2] true false), (530, .row 99 [tzq0, tzi 2] true false), (529, .row 155 [tzq5, tzs 532 1] true false), (528, .row 96 [tzq5, tzs 487 1] true false), (527, .row 153 [tzq0, tzi 3, tzq7, tzi 1] true true), (526, .row 153 [tzq7, tzi 1] true false), (525, .row 99 [tzq7, tzi 1] true false), (523, .row 153 [tzq0, tzi 3] true false), (522, .row 99 [tzq0, tzi 3] true false), (521, .row 72 [tzs 527 2, tzs 548 3, tzs 563 3] true false), (520, .row 72 [tzs 527 2, tzs 548 3, tzs 563 3] true false), (519, .row 64 [tzs 482 2, tzs 503 3, tzs 518 3] true false), (518, .row 109 [tzq3, .bool false, tzs 506 2, tzq2, .bool true, tzs 511 2, tzq8, .bool false, tzs 516 2] true true), (517, .row 109 [tzq8, .bool false, tzs 516 2] true false), (516, .row 9 [tzq3, tzq2] true true), (515, .row 9 [] true false), (514, .row 156 [tzq8, .bool false, tzs 281 2] true false), (512, .row 109 [tzq2, .bool true, tzs 511 2] true false), (511, .row 9 [tzq9, tzq1] true true), (510, .row 9 [] true false), (509, .row 156 [tzq2, .bool true, tzs 276 2] true false), (507, .row 109 [tzq3, .bool false, tzs 506 2] true false), (506, .row 9 [tzq5, tzq1] true true), (505, .row 9 [] true false), (504, .row 156 [tzq3, .bool false, tzs 271 2] true false), (503, .row 96 [tzq5, tzs 487 1, tzq9, tzs 497 2, tzq1, tzn] true true), (502, .row 96 [tzq1, tzn] true false), (501, .row 96 [tzq1, tzn] true false), (500, .row 155 [tzq1, tzn] true false), (498, .row 96 [tzq9, tzs 497 2] true false), (497, .row 99 [tzq7, tzi 1, tzq0, tzi 1] true true)]
noncomputable def tzO21_5 : List (Nat × AObj) := [(496, .row 99 [tzq0, tzi 1] true false), (495, .row 153 [tzq0, tzi 1] true false), (493, .row 99 [tzq7, tzi 1] true false), (492, .row 153 [tzq7, tzi 1] true false), (491, .row 96 [tzq9, tzs 497 2] true false), (490, .row 155 [tzq9, tzs 263 2] true false), (488, .row 96 [tzq5, tzs 487 1] true false), (487, .row 99 [tzq0, tzi 2] true true), (486, .row 99 [tzq0, tzi 2] true false), (485, .row 153 [tzq0, tzi 2] true false), (484, .row 96 [tzq5, tzs 487 1] true false), (483, .row 155 [tzq5, tzs 258 1] true false), (482, .row 99 [tzq0, tzi 3, tzq7, tzi 1] true true), (481, .row 99 [tzq7, tzi 1] true false), (480, .row 153 [tzq7, tzi 1] true false), (478, .row 99 [tzq0, tzi 3] true false), (477, .row 153 [tzq0, tzi 3] true false), (476, .row 64 [tzs 482 2, tzs 503 3, tzs 518 3] true false), (475, .row 64 [tzs 482 2, tzs 503 3, tzs 518 3] true false), (474, .row 72 [tzs 254 2, tzs 268 3, tzs 283 3] true false), (473, .row 9 [tzq2] true true), (472, .row 9 [tzq2] true false), (471, .row 156 [tzq8, .bool false, tzs 407 2] true false), (470, .row 9 [tzq1] true true), (469, .row 9 [tzq1] true false), (468, .row 156 [tzq2, .bool true, tzs 402 2] true false), (467, .row 9 [tzq1] true true), (466, .row 9 [tzq1] true false), (465, .row 156 [tzq3, .bool false, tzs 397 2] true false), (464, .row 158 [.map (some 463)] true false), (463, .mapo [⟨tzq1, .bool true, 0⟩, ⟨tzq3, .bool false, 1⟩, ⟨tzq2, .bool true, 2⟩, ⟨tzq8, .bool false, 3⟩] 4), (462, .row 72 [tzs 373 2, tzs 394 3, tzs 409 3] true false), (461, .row 9 [tzq1] true true), (460, .row 27 [tzn, tzs 435 1] true false), (459, .row 27 [tzs 440 0, .slice (some ⟨0, 0, none⟩) 0 2] true false), (458, .row 9 [tzq3, tzq2] true true), (457, .row 9 [tzq2] true false), (455, .row 9 [tzq3] true false), (454, .row 156 [tzq8, .bool false, tzs 407 2] true false), (453, .row 9 [tzq1] true true)]
noncomputable def tzO21_6 : List (Nat × AObj) := [(452, .row 9 [tzq1] true false), (451, .row 156 [tzq2, .bool true, tzs 402 2] true false), (450, .row 9 [tzq5, tzq1] true true), (449, .row 9 [tzq1] true false), (447, .row 9 [tzq5] true false), (446, .row 156 [tzq3, .bool false, tzs 397 2] true false), (445, .row 158 [.map (some 444)] true false), (444, .mapo [⟨tzq5, .bool true, 0⟩, ⟨tzq1, .bool true, 1⟩, ⟨tzq3, .bool true, 2⟩, ⟨tzq2, .bool true, 3⟩, ⟨tzq8, .bool true, 4⟩] 5), (443, .row 72 [tzs 373 2, tzs 394 3, tzs 409 3] true false), (442, .row 9 [tzq5, tzq1] true true), (441, .row 27 [tzs 440 1, tzs 435 1] true false), (440, .row 9 [tzq5] true true), (439, .row 27 [tzs 438 1, .slice (some ⟨0, 0, none⟩) 0 2] true false), (438, .row 9 [tzq5, tzq9] true true), (437, .row 9 [] true false), (436, .row 72 [tzs 373 2, tzs 394 3, tzs 409 3] true false), (435, .row 9 [tzq1] true true), (434, .row 9 [tzq1] true false), (433, .row 155 [tzq1, tzn] true false), (432, .row 155 [tzq1, tzn] true true), (431, .row 155 [tzq1, tzn] true false), (430, .row 155 [tzq1, tzn] true false), (429, .row 155 [tzq9, tzs 388 2] true false), (428, .row 155 [tzq5, tzs 378 1] true false), (427, .row 72 [tzs 373 2, tzs 394 3, tzs 409 3] true false), (426, .row 72 [tzs 373 2, tzs 394 3, tzs 409 3] true false), (425, .row 9 [tzq5, tzq9] true true), (424, .row 9 [tzq9] true false), (423, .row 155 [tzq9, tzs 388 2] true false), (421, .row 9 [tzq5] true false), (420, .row 155 [tzq5, tzs 378 1] true false), (419, .row 155 [tzq1, tzn] true false), (418, .row 155 [tzq5, tzs 378 1, tzq9, tzs 388 2] true true), (417, .row 155 [tzq9, tzs 388 2] true false), (416, .row 155 [tzq9, tzs 388 2] true false), (414, .row 155 [tzq5, tzs 378 1] true false), (413, .row 155 [tzq5, tzs 378 1] true false), (412, .row 72 [tzs 373 2, tzs 394 3, tzs 409 3] true false), (411, .row 32 [tzi 0, tzi 0] true false), (410, .row 72 [tzs 373 2, tzs 394 3, tzs 409 3] true false)]
noncomputable def tzO21_7 : List (Nat × AObj) := [(409, .row 156 [tzq3, .bool false, tzs 397 2, tzq2, .bool true, tzs 402 2, tzq8, .bool false, tzs 407 2] true true), (408, .row 156 [tzq8, .bool false, tzs 407 2] true false), (407, .row 9 [tzq3, tzq2] true true), (406, .row 9 [] true false), (405, .row 109 [tzq8, .bool false, tzs 362 2] true false), (403, .row 156 [tzq2, .bool true, tzs 402 2] true false), (402, .row 9 [tzq9, tzq1] true true), (401, .row 9 [] true false), (400, .row 109 [tzq2, .bool true, tzs 357 2] true false), (398, .row 156 [tzq3, .bool false, tzs 397 2] true false), (397, .row 9 [tzq5, tzq1] true true), (396, .row 9 [] true false), (395, .row 109 [tzq3, .bool false, tzs 352 2] true false), (394, .row 155 [tzq5, tzs 378 1, tzq9, tzs 388 2, tzq1, tzn] true true), (393, .row 155 [tzq1, tzn] true false), (392, .row 155 [tzq1, tzn] true false), (391, .row 96 [tzq1, tzn] true false), (389, .row 155 [tzq9, tzs 388 2] true false), (388, .row 153 [tzq7, tzi 1, tzq0, tzi 1] true true), (387, .row 153 [tzq0, tzi 1] true false), (386, .row 99 [tzq0, tzi 1] true false), (384, .row 153 [tzq7, tzi 1] true false), (383, .row 99 [tzq7, tzi 1] true false), (382, .row 155 [tzq9, tzs 388 2] true false), (381, .row 96 [tzq9, tzs 343 2] true false), (379, .row 155 [tzq5, tzs 378 1] true false), (378, .row 153 [tzq0, tzi 2] true true), (377, .row 153 [tzq0, tzi 2] true false), (376, .row 99 [tzq0, tzi 2] true false), (375, .row 155 [tzq5, tzs 378 1] true false), (374, .row 96 [tzq5, tzs 333 1] true false), (373, .row 153 [tzq0, tzi 3, tzq7, tzi 1] true true), (372, .row 153 [tzq7, tzi 1] true false), (371, .row 99 [tzq7, tzi 1] true false), (369, .row 153 [tzq0, tzi 3] true false), (368, .row 99 [tzq0, tzi 3] true false), (367, .row 72 [tzs 373 2, tzs 394 3, tzs 409 3] true false), (366, .row 72 [tzs 373 2, tzs 394 3, tzs 409 3] true false), (365, .row 64 [tzs 328 2, tzs 349 3, tzs 364 3] true false), (364, .row 109 [tzq3, .bool false, tzs 352 2, tzq2, .bool true, tzs 357 2, tzq8, .bool false, tzs 362 2] true true)]
noncomputable def tzO21_8 : List (Nat × AObj) := [(363, .row 109 [tzq8, .bool false, tzs 362 2] true false), (362, .row 9 [tzq3, tzq2] true true), (361, .row 9 [] true false), (360, .row 156 [tzq8, .bool false, tzs 281 2] true false), (358, .row 109 [tzq2, .bool true, tzs 357 2] true false), (357, .row 9 [tzq9, tzq1] true true), (356, .row 9 [] true false), (355, .row 156 [tzq2, .bool true, tzs 276 2] true false), (353, .row 109 [tzq3, .bool false, tzs 352 2] true false), (352, .row 9 [tzq5, tzq1] true true), (351, .row 9 [] true false), (350, .row 156 [tzq3, .bool false, tzs 271 2] true false), (349, .row 96 [tzq5, tzs 333 1, tzq9, tzs 343 2, tzq1, tzn] true true), (348, .row 96 [tzq1, tzn] true false), (347, .row 96 [tzq1, tzn] true false), (346, .row 155 [tzq1, tzn] true false), (344, .row 96 [tzq9, tzs 343 2] true false), (343, .row 99 [tzq7, tzi 1, tzq0, tzi 1] true true), (342, .row 99 [tzq0, tzi 1] true false), (341, .row 153 [tzq0, tzi 1] true false), (339, .row 99 [tzq7, tzi 1] true false), (338, .row 153 [tzq7, tzi 1] true false), (337, .row 96 [tzq9, tzs 343 2] true false), (336, .row 155 [tzq9, tzs 263 2] true false), (334, .row 96 [tzq5, tzs 333 1] true false), (333, .row 99 [tzq0, tzi 2] true true), (332, .row 99 [tzq0, tzi 2] true false), (331, .row 153 [tzq0, tzi 2] true false), (330, .row 96 [tzq5, tzs 333 1] true false), (329, .row 155 [tzq5, tzs 258 1] true false), (328, .row 99 [tzq0, tzi 3, tzq7, tzi 1] true true), (327, .row 99 [tzq7, tzi 1] true false), (326, .row 153 [tzq7, tzi 1] true false), (324, .row 99 [tzq0, tzi 3] true false), (323, .row 153 [tzq0, tzi 3] true false), (322, .row 64 [tzs 328 2, tzs 349 3, tzs 364 3] true false), (321, .row 64 [tzs 328 2, tzs 349 3, tzs 364 3] true false), (320, .row 72 [tzs 254 2, tzs 268 3, tzs 283 3] true false)]
noncomputable def tzL21 : List (Nat × AObj) := tzO21_0 ++ tzO21_1 ++ tzO21_2 ++ tzO21_3 ++ tzO21_4 ++ tzO21_5 ++ tzO21_6 ++ tzO21_7 ++ tzO21_8 ++ tzL18
noncomputable def tzH21 : Heap := ⟨723, 1, tzL21⟩
end Go.Proofs
namespace Go.Proofs
open Go.Fs
theorem tzP7 : runPre Tryz.prog OB 7 100000 (tzC) ⟨fillTr .leaf 0 [], Tryz.f16.ntmps, []⟩ ⟨1, 1, []⟩ = some (99993, sufx 7 tzC, tzF7, tzH7) := by kernel_rfl
end Go.Proofs
namespace Go.Proofs
open Go.Fs
theorem tzP11 : runPre Tryz.prog OB 4 99993 (sufx 7 tzC) tzF7 tzH7 = some (99989, sufx 11 tzC, tzF11, tzH11) := by kernel_rfl
end Go.Proofs
namespace Go.Proofs
open Go.Fs
theorem tzP14 : runPre Tryz.prog OB 3 99989 (sufx 11 tzC) tzF11 tzH11 = some (99986, sufx 14 tzC, tzF14, tzH14) := by kernel_rfl
end Go.Proofs
namespace Go.Proofs
open Go.Fs
theorem tzP16 : runPre Tryz.prog OB 2 99986 (sufx 14 tzC) tzF14 tzH14 = some (99984, sufx 16 tzC, tzF16, tzH16) := by kernel_rfl
end Go.Proofs
namespace Go.Proofs
open Go.Fs
theorem tzP18 : runPre Tryz.prog OB 2 99984 (sufx 16 tzC) tzF16 tzH16 = some (99982, sufx 18 tzC, tzF18, tzH18) := by kernel_rfl
end Go.Proofs
namespace Go.Proofs
open Go.Fs
theorem tzP21 : runPre Tryz.prog OB 3 99982 (sufx 18 tzC) tzF18 tzH18 = some (99979, sufx 21 tzC, tzF21, tzH21) := by kernel_rfl
end Go.Proofs
namespace Go.Proofs
open Go.Fs
theorem tzPe : (fsCodeX Tryz.prog OB 99979 none (sufx 21 tzC) tzF21 tzH21).bind (endV Tryz.prog Tryz.f16 ⟨1, 1, []⟩) = some (.bool true) := by kernel_rfl
end Go.Proofs
namespace Go.Proofs
open Go.Fs
theorem tzRun : (fsEnter Tryz.prog (fsCodeX Tryz.prog OB 100000) 16 [] ⟨1, 1, []⟩).map (·.1) = some (.bool true) := by
  rw [enter_map (c := tzC) Tryz.func16 rfl (by rfl)]
  show (fsCodeX Tryz.prog OB 100000 none tzC ⟨fillTr .leaf 0 [], Tryz.f16.ntmps, []⟩ ⟨1, 1, []⟩).bind _ = _
  rw [run_via tzP7]
  rw [run_via tzP11]
  rw [run_via tzP14]
  rw [run_via tzP16]
  rw [run_via tzP18]
  rw [run_via tzP21]
  exact tzPe
end Go.Proofs
namespace Go.Fs
open Go.RowKit (Below)
open Go.Sort Go.Proofs Go.Shelf
variable {P : Program}
def orcN : FuncId → List Value → Heap → Option (Value × Heap) := fun _ _ _ => none
theorem orcN_sound {B : Nat} {w0 : World} : CallSound P B w0 orcN := fun f xs h v h' hf => by cases hf
theorem fs_openD (hP : ProgOk P) {B : Nat} {w0 w : World} {orc : FuncId → List Value → Heap → Option (Value × Heap)} (horc : CallSound P B w0 orc) {ρ : Ren} {S : Nat → Prop} {h : Heap} {f : FuncId} {args args' : List Value} {v : Value}
    (hE : Enters P f) (hr : HR P ρ S B w0 h w) (ha : LR ρ S args args') (he : EvF P orc f args h fun u _ => u = v) (hv : af v = true) : Calls P f args'.toArray w fun | .returned v', w' => v' = v ∧ Below B w0 w' ∧ w0.drawn ≤ w'.drawn | _, _ => False := by
  obtain ⟨m, u, h', h1, rfl⟩ := he
  have hc : CallsIn Fence.wide 0 P f args'.toArray w (RetR P B w0 ρ S h w u h') := by
    rcases call_sound hP horc (code_sound hP horc m) f args h u h' h1 with h2 | h2
    · exact h2.2 ρ S w args' hr ha 0
    obtain ⟨w', v', h3, _⟩ := h2 ρ S w args' hr ha
    rw [callFunc_run hE] at h3
    simp at h3
  refine Calls.mono (callsIn_wide.1 hc) fun e w' he => ?_
  cases e with
  | returned v' =>
    obtain ⟨ρ', m1, hv1⟩ := he
    exact ⟨hv1.eq_of_af hv, m1.hr.below, m1.hr.drawn⟩
  | panicked c => exact he.elim
  | outgrown => exact he.elim
theorem hr_nil {w : World} : HR P (fun _ => ⟨0, 0, 0, 0⟩) (fun _ => False) w.heap.size w ⟨1, 1, []⟩ w where
  objs := fun i o h => by cases h
  inj := fun i j oi oj h => by cases h
  base := fun i o h => by cases h
  ro := fun i o h => by cases h
  ids := fun b hb => hb.elim
  pos := Nat.one_pos
  below := Below.refl _ _
  drawn := Nat.le_refl _
  size := Nat.le_refl _
theorem grown_of {w w' : World} (h : Below w.heap.size w w') (hd : w.drawn ≤ w'.drawn) : ∃ q os, w' = grow (w.drewN q) os := by
  obtain ⟨p, hp⟩ := regrown_of_below h
  refine ⟨p.d - w.drawn, p.os, ?_⟩
  have e : p.d = w'.drawn := by rw [hp]; rfl
  rw [hp]
  congr 1
  unfold redrawn World.drewN
  congr 1
  omega
theorem cmp_lays {α : Type} [Inhabited α] (hP : ProgOk P) {g : FuncId} (hE : Enters P g) {enc : α → List Value} {k : Nat} {cf : α → α → Int} {blk off size : Nat} {w : World} (haf : ∀ x, (enc x).all af0 = true)
    (h : ∀ x y : α, EvF P orcN g [.agg (enc x).toArray, .agg (enc y).toArray] ⟨1, 1, []⟩ fun u _ => u = .int .i64 (cf x y)) : CmpLays P g #[] enc k cf blk off size w := fun m os dk _ x y => by
  have hA : ∀ x, VR (fun _ => (⟨0, 0, 0, 0⟩ : Loc)) (fun _ => False) (.agg (enc x).toArray) (.agg (enc x).toArray) := fun x => VR.agg' (LR.self_af0 (by simpa using haf x))
  have hl : LR (fun _ => (⟨0, 0, 0, 0⟩ : Loc)) (fun _ => False) [.agg (enc x).toArray, .agg (enc y).toArray] [.agg (enc x).toArray, .agg (enc y).toArray] := LR.cons (hA x) (LR.cons (hA y) LR.nil)
  refine (fs_openD (args' := [.agg (enc x).toArray, .agg (enc y).toArray]) hP orcN_sound hE (hr_nil (w := sortWorldK enc k w blk off m dk os)) hl (h x y) rfl).mono fun e w' he => ?_
  cases e with
  | returned v' =>
    obtain ⟨rfl, h1, h2⟩ := he
    obtain ⟨q, os', h3⟩ := grown_of h1 h2
    exact ⟨rfl, q, os', h3⟩
  | panicked c => exact he.elim
  | outgrown => exact he.elim
theorem flatC (ys : List Cl3) : flatK encC 3 ys.toArray = (ys.flatMap encC).toArray := by
  refine ext_get! (by rw [size_flatK, List.size_toArray, List.size_toArray, encC_len]) fun t ht => ?_
  have ht' : t < ys.length * 3 := by simpa using ht
  rw [get_flatK _ _ _ _ (by simpa using ht')]
  have key : ∀ (zs : List Cl3) (t : Nat), t < zs.length * 3 → (zs.flatMap encC)[t]! = (encC (zs[t / 3]!))[t % 3]! := by
    intro zs
    induction zs with
    | nil => intro t ht; simp at ht
    | cons z zs ih =>
      intro t ht
      rw [List.flatMap_cons]
      by_cases h3 : t < 3
      · have e1 : t / 3 = 0 := by omega
        have e2 : t % 3 = t := by omega
        rw [e1, e2]
        simp [encC]
        rcases t with _ | _ | _ | t
        · rfl
        · rfl
        · rfl
        omega
      obtain ⟨u, rfl⟩ : ∃ u, t = u + 3 := ⟨t - 3, by omega⟩
      have e1 : (u + 3) / 3 = u / 3 + 1 := by omega
      have e2 : (u + 3) % 3 = u % 3 := by omega
      rw [e1, e2]
      have := ih u (by simp at ht; omega)
      simpa [encC] using this
  have := key ys t ht'
  simpa using this.symm
end Go.Fs
namespace Go.Proofs.Cmp
open Go.Fs
set_option linter.unusedVariables false
set_option maxHeartbeats 1000000
abbrev y39FZ : Ty := (.sl (.int .i64))
abbrev y127FZ : Ty := (.pair (.int .i64) (.pair (.int .i64) .str))
theorem vt3FZ : ValT Tryz.prog 3 (.int .i64) := valT_of (by kernel_rfl)
theorem el39FZ : ElT Tryz.prog 39 3 (.int .i64) := elT_of (by kernel_rfl)
def orI : List Int → Int
  | [] => 0
  | x :: r => if x = 0 then orI r else x
theorem orI_drop {l : List Int} {j : Nat} (h : j < l.length) : orI (l.drop j) = if l[j] = 0 then orI (l.drop (j + 1)) else l[j] := by
  rw [List.drop_eq_getElem_cons h] <;> rfl
theorem or_cmp {x y : Cl3} : orI [cmpI x.1 y.1, cmpI x.2.1 y.2.1] = cmpC x y := by
  unfold cmpC
  show (if cmpI x.1 y.1 = 0 then (if cmpI x.2.1 y.2.1 = 0 then 0 else cmpI x.2.1 y.2.1) else cmpI x.1 y.1) = _
  split
  · split
    · rename_i h; exact h.symm
    rfl
  rfl
theorem nNaN_ok {x : Int} : VF Tryz.prog orcN 209 [I x] (B false) := by
  refine VF.enter Tryz.func209 rfl (fun _ _ => rfl) rfl ?_
  show VC _ _ _ _ _ [(0, I x)] [] _
  refine VC.seq (VC.text ?_)
  refine VO.c (.assign rfl) ?_
  refine VO.go (VC.seq (VC.text ?_))
  refine VO.c (.move rfl) ?_
  refine VO.c (.move rfl) ?_
  refine VO.c (.neq) ?_
  refine VO.c (.assign rfl) ?_
  refine VO.go ?_
  refine VC.ret ?_
  exact VEnd.one rfl evT (pvE (by simp))
theorem nCompare_ok {x : Int} {y : Int} : VF Tryz.prog orcN 175 [I x, I y] (I (cmpI x y)) := by
  refine VF.enter Tryz.func175 rfl (fun _ _ => rfl) rfl ?_
  show VC _ _ _ _ _ [(0, I x), (1, I y)] [] _
  refine VC.seq (VC.text ?_)
  refine VO.c (.assign rfl) ?_
  refine VO.go (VC.seq (VC.text ?_))
  refine VO.c (.move rfl) ?_
  refine VO.call rfl rfl (VF.call (nNaN_ok )) ?_
  refine VO.c (.assign rfl) ?_
  refine VO.go (VC.seq (VC.text ?_))
  refine VO.c (.move rfl) ?_
  refine VO.call rfl rfl (VF.call (nNaN_ok )) ?_
  refine VO.c (.assign rfl) ?_
  refine VO.go (VC.seq (VC.seq (VC.text ?_)))
  refine VO.c (.move rfl) ?_
  refine VO.go ?_
  refine VC.condF rfl ?_
  refine VC.skip (VC.seq (VC.seq (VC.text ?_)))
  refine VO.c (.move rfl) ?_
  refine VO.go ?_
  refine VC.condF rfl ?_
  refine VC.skip (VC.seq (VC.seq (VC.text ?_)))
  refine VO.c (.move rfl) ?_
  refine VO.c (.move rfl) ?_
  refine VO.c (.lss) ?_
  refine VO.go ?_
  refine VC.condD rfl (fun c9 => ?_) (fun c9 => ?_)
  · refine VC.seq (VC.text ?_)
    refine VO.c (.assign rfl) ?_
    refine VO.go ?_
    refine VC.ret ?_
    exact VEnd.one rfl evT (pvI (by unfold cmpI Lib.compareInt; simp [*]))
  refine VC.skip (VC.seq (VC.seq (VC.text ?_)))
  refine VO.c (.move rfl) ?_
  refine VO.c (.move rfl) ?_
  refine VO.c (.gtr) ?_
  refine VO.go ?_
  refine VC.condD rfl (fun c11 => ?_) (fun c11 => ?_)
  · refine VC.seq (VC.text ?_)
    refine VO.c (.assign rfl) ?_
    refine VO.go ?_
    refine VC.ret ?_
    exact VEnd.one rfl evT (pvI (by unfold cmpI Lib.compareInt; simp [*]))
  refine VC.skip (VC.seq (VC.text ?_))
  refine VO.c (.assign rfl) ?_
  refine VO.go ?_
  refine VC.ret ?_
  exact VEnd.one rfl evT (pvI (by unfold cmpI Lib.compareInt; simp [*]))
theorem nOr_ok {l : List Int} (hl : l.length < 1000000) : VF Tryz.prog orcN 174 [.v y39FZ l] (I (orI l)) := by
  refine VF.enter Tryz.func174 rfl (fun _ _ => rfl) rfl ?_
  show VC _ _ _ _ _ [(0, .v y39FZ l)] [] _
  refine VC.seq (VC.text ?_)
  refine VO.c (.assign rfl) ?_
  refine VO.go (VC.seq (VC.text ?_))
  refine VO.c (.assign rfl) ?_
  refine VO.go (VC.seq (VC.seq (VC.text ?_)))
  refine VO.c (.move rfl) ?_
  refine VO.r (.len el39FZ) ?_
  refine VO.c (.move rfl) ?_
  refine VO.go (VC.block ?_)
  refine VC.keep [(3, I (0 : Int)), (6, .v y39FZ l), (7, I ((l.length : Nat) : Int)), (8, I ((0 : Nat) : Int))] ⟨rfl, rfl, rfl, rfl, trivial⟩ ?_
  refine VC.loop (I := fun kk ff ss => ∃ (j : Nat), kk = l.length - j ∧ ff = [(3, I (0 : Int)), (6, .v y39FZ l), (7, I ((l.length : Nat) : Int)), (8, I ((j : Nat) : Int))] ∧ ss = [] ∧ (j ≤ l.length) ∧ (orI l = orI (l.drop j))) ?_ _ _ _ ⟨0, rfl, rfl, rfl, Nat.zero_le _, (by rfl)⟩
  rintro kk ff ss ⟨j, hk0, rfl, rfl, hj, hf⟩
  refine VC.seq (VC.text ?_)
  refine VO.c (.lss) ?_
  refine VO.go (VC.seq ?_)
  refine VC.condD rfl (fun c3 => ?_) (fun c3 => ?_)
  · refine VC.skip (VC.seq (VC.block (VC.seq (VC.text ?_))))
    refine VO.c (.ix (j := j) rfl rfl el39FZ (by omega)) ?_
    refine VO.r (.ld vt3FZ) ?_
    refine VO.c (.assign rfl) ?_
    refine VO.go (VC.seq (VC.text ?_))
    refine VO.c (.move rfl) ?_
    refine VO.c (.move rfl) ?_
    refine VO.c (.neq) ?_
    refine VO.go ?_
    refine VC.condD rfl (fun c5 => ?_) (fun c5 => ?_)
    · refine VC.seq (VC.text ?_)
      refine VO.c (.move rfl) ?_
      refine VO.c (.assign rfl) ?_
      refine VO.go ?_
      refine VC.ret ?_
      exact VEnd.one rfl evT (pvI (by rw [hf, orI_drop (by omega), if_neg c5]))
    refine VC.skip (VC.text ?_)
    refine VO.c (.add rfl rfl (by omega)) ?_
    refine VO.c (.move rfl) ?_
    refine VO.nil ?_
    refine ⟨_, [(3, I (0 : Int)), (6, .v y39FZ l), (7, I ((l.length : Nat) : Int)), (8, I (((j + 1) : Nat) : Int))], ?_, ⟨rfl, rfl, rfl, rfl, trivial⟩, (j + 1), rfl, rfl, rfl, (by omega), (by rw [hf, orI_drop (by omega), if_pos (by simpa using c5)])⟩
    omega
  refine VC.exit (VC.seq (VC.text ?_))
  refine VO.c (.move rfl) ?_
  refine VO.c (.assign rfl) ?_
  refine VO.go ?_
  refine VC.ret ?_
  exact VEnd.one rfl evT (pvI (by rw [hf, List.drop_eq_nil_of_le (by omega)] <;> rfl))
theorem nClash_ok {x : Int × Int × ByteArray} {y : Int × Int × ByteArray} : VF Tryz.prog orcN 138 [.v y127FZ x, .v y127FZ y] (I (cmpC x y)) := by
  refine VF.enter Tryz.func138 rfl (fun _ _ => rfl) rfl ?_
  show VC _ _ _ _ _ [(0, .v y127FZ x), (1, .v y127FZ y)] [] _
  refine VC.seq (VC.text ?_)
  refine VO.new (.box) ?_
  refine VO.new (.box) ?_
  refine VO.c (.assign rfl) ?_
  refine VO.go (VC.seq (VC.drawn ?_))
  refine VD.c (.fa (.l .o)) ?_
  refine VD.r [] (.ld vt3FZ) (.inl rfl) ?_
  refine VD.c (.fa (.l .o)) ?_
  refine VD.r [] (.ld vt3FZ) (.inl rfl) ?_
  refine VD.call rfl rfl (VF.call (nCompare_ok )) ?_
  refine VD.c (.fa (.r (.l .o))) ?_
  refine VD.nw [] ?_
  refine VD.r [] (.ld vt3FZ) (.inl rfl) ?_
  refine VD.c (.fa (.r (.l .o))) ?_
  refine VD.r [] (.ld vt3FZ) (.inl rfl) ?_
  refine VD.call rfl rfl (VF.call (nCompare_ok )) ?_
  refine VD.new (.lit [cmpI x.1 y.1, cmpI x.2.1 y.2.1] el39FZ) ?_
  refine VD.callO rfl rfl (VF.call (nOr_ok (by first | assumption | omega | simp))) ?_
  refine VD.c (.assign rfl) ?_
  refine VD.go ?_
  refine VC.ret ?_
  exact VEnd.one rfl evT (pvI (by exact or_cmp))
end Go.Proofs.Cmp
namespace Go.Proofs
open Go.Shelf
def Tryz.sortClash_ren : Go.Shelf.Ren := ⟨fun | 6 => 137 | 15 => 173 | 14 => 172 | 28 => 207 | 29 => 208 | 20 => 199 | 21 => 200 | 22 => 201 | 23 => 202 | 24 => 203 | 25 => 204 | 26 => 205 | 27 => 206 | 46 => 217 | 47 => 218 | 48 => 219 | 49 => 220 | 50 => 221 | 57 => 236 | n => n, fun | 22 => 110 | 24 => 127 | 25 => 181 | 3 => 3 | 39 => 220 | 0 => 0 | 53 => 244 | 55 => 246 | 4 => 4 | 46 => 238 | 45 => 237 | 50 => 208 | 5 => 5 | 9 => 9 | 66 => 253 | 70 => 257 | 76 => 270 | 77 => 58 | n => n, fun | n => n⟩
theorem Tryz.sortClash : Go.Proofs.SlLaysF0.n6 Tryz.prog Tryz.sortClash_ren := {
  mixed := by kernel_rfl
  f6 := ⟨Tryz.f137.name, by decide, Tryz.func137.trans (congrArg some (by kernel_rfl))⟩
  f14 := ⟨Tryz.f172.name, by decide, Tryz.func172.trans (congrArg some (by kernel_rfl))⟩
  f15 := Tryz.func173.trans (congrArg some (by kernel_rfl))
  f20 := ⟨Tryz.f199.name, by decide, Tryz.func199.trans (congrArg some (by kernel_rfl))⟩
  f21 := ⟨Tryz.f200.name, by decide, Tryz.func200.trans (congrArg some (by kernel_rfl))⟩
  f22 := ⟨Tryz.f201.name, by decide, Tryz.func201.trans (congrArg some (by kernel_rfl))⟩
  f23 := ⟨Tryz.f202.name, by decide, Tryz.func202.trans (congrArg some (by kernel_rfl))⟩
  f24 := ⟨Tryz.f203.name, by decide, Tryz.func203.trans (congrArg some (by kernel_rfl))⟩
  f25 := ⟨Tryz.f204.name, by decide, Tryz.func204.trans (congrArg some (by kernel_rfl))⟩
  f26 := ⟨Tryz.f205.name, by decide, Tryz.func205.trans (congrArg some (by kernel_rfl))⟩
  f27 := ⟨Tryz.f206.name, by decide, Tryz.func206.trans (congrArg some (by kernel_rfl))⟩
  f28 := Tryz.func207.trans (congrArg some (by kernel_rfl))
  f29 := Tryz.func208.trans (congrArg some (by kernel_rfl))
  f46 := ⟨Tryz.f217.name, by decide, Tryz.func217.trans (congrArg some (by kernel_rfl))⟩
  f47 := Tryz.func218.trans (congrArg some (by kernel_rfl))
  f48 := Tryz.func219.trans (congrArg some (by kernel_rfl))
  f49 := ⟨Tryz.f220.name, by decide, Tryz.func220.trans (congrArg some (by kernel_rfl))⟩
  f50 := ⟨Tryz.f221.name, by decide, Tryz.func221.trans (congrArg some (by kernel_rfl))⟩
  f57 := ⟨Tryz.f236.name, by decide, Tryz.func236.trans (congrArg some (by kernel_rfl))⟩
  t0 := Tryz.underlying0
  a0 := Tryz.isAgg0
  z0 := Tryz.sizeOf0
  v0 := Tryz.zeroValue0
  t3 := Tryz.underlying3
  a3 := Tryz.isAgg3
  z3 := Tryz.sizeOf3
  v3 := Tryz.zeroValue3
  t4 := Tryz.underlying4
  a4 := Tryz.isAgg4
  z4 := Tryz.sizeOf4
  v4 := Tryz.zeroValue4
  t5 := Tryz.underlying5
  a5 := Tryz.isAgg5
  z5 := Tryz.sizeOf5
  v5 := Tryz.zeroValue5
  t9 := Tryz.underlying9
  a9 := Tryz.isAgg9
  z9 := Tryz.sizeOf9
  v9 := Tryz.zeroValue9
  t22 := Tryz.underlying110
  a22 := Tryz.isAgg110
  z22 := Tryz.sizeOf110
  v22 := Tryz.zeroValue110
  t25 := Tryz.underlying181
  a25 := Tryz.isAgg181
  z25 := Tryz.sizeOf181
  v25 := Tryz.zeroValue181
  t39 := Tryz.underlying220
  a39 := Tryz.isAgg220
  z39 := Tryz.sizeOf220
  v39 := Tryz.zeroValue220
  t45 := Tryz.underlying237
  a45 := Tryz.isAgg237
  z45 := Tryz.sizeOf237
  v45 := Tryz.zeroValue237
  t46 := Tryz.underlying238
  a46 := Tryz.isAgg238
  z46 := Tryz.sizeOf238
  v46 := Tryz.zeroValue238
  t50 := Tryz.underlying208
  a50 := Tryz.isAgg208
  z50 := Tryz.sizeOf208
  v50 := Tryz.zeroValue208
  t53 := Tryz.underlying244
  a53 := Tryz.isAgg244
  z53 := Tryz.sizeOf244
  v53 := Tryz.zeroValue244
  t55 := Tryz.underlying246
  a55 := Tryz.isAgg246
  z55 := Tryz.sizeOf246
  v55 := Tryz.zeroValue246
  t66 := Tryz.underlying253
  a66 := Tryz.isAgg253
  z66 := Tryz.sizeOf253
  v66 := Tryz.zeroValue253
  t70 := Tryz.underlying257
  a70 := Tryz.isAgg257
  z70 := Tryz.sizeOf257
  v70 := Tryz.zeroValue257
  t76 := Tryz.underlying270
  a76 := Tryz.isAgg270
  z76 := Tryz.sizeOf270
  v76 := Tryz.zeroValue270
  t77 := Tryz.underlying58
  a77 := Tryz.isAgg58
  z77 := Tryz.sizeOf58
  v77 := Tryz.zeroValue58 }
end Go.Proofs
namespace Go.Fs
open Go.RowKit (Below)
variable {P : Program} {H : Type} {enc : TypeId × Value → H} {w : World} {base : Nat} {sp : Nat → Bool} {held : Bool}

def fsB (P : Program) (ty : TypeId → Ty → Bool) : List Field → Nat → Ty → Bool
  | [f], off, .pair a .unit => Nat.beq f.offset off && Nat.beq (P.cellsOf f.type) a.size && ty f.type a
  | [f], off, τ => Nat.beq f.offset off && Nat.beq (P.cellsOf f.type) τ.size && ty f.type τ
  | f :: fs, off, .pair a b => Nat.beq f.offset off && Nat.beq (P.cellsOf f.type) a.size && ty f.type a && fsB P ty fs (off + a.size) b
  | _, _, _ => false
def tyB (P : Program) : Nat → TypeId → Ty → Bool
  | 0, _, _ => false
  | n + 1, t, τ =>
    match P.underlying t, τ with
    | some (.int k), .int k' => decide (k = k')
    | some .bool, .bool => true
    | some .string, .str => true
    | some (.float k), .flt k' => decide (k = k')
    | some (.slice te), .sl e => Nat.beq (P.cellsOf te) e.size && Nat.blt 0 e.size && tyB P n te e
    | some (.struct fs), .pair a b => Nat.beq (P.cellsOf t) (Ty.pair a b).size && fsB P (tyB P n) fs.toList 0 (.pair a b)
    | _, _ => false

def Wf : (τ : Ty) → τ.den → Prop
  | .int k, n => (Lit.int k n).wf = true
  | .bool, _ => True
  | .str, s => s.size ≤ maxLen
  | .flt k, n => (Lit.float k n).wf = true
  | .sl e, xs => List.length xs ≤ maxLen ∧ ∀ x ∈ (xs : List e.den), Wf e x
  | .pair a b, x => Wf a x.1 ∧ Wf b x.2
  | .unit, _ => True
  | .mp _ _, _ => True
  | .fn, _ => True
  | .hnd, _ => True

structure Got (P : Program) (w : World) (ρ : Ren) (S : Nat → Prop) (h : Heap) (ρ' : Ren) (S' : Nat → Prop) (h' : Heap) : Prop where
  hr : HR P ρ' S' w.heap.size (wz w) h' w
  agree : ∀ b, S b → S' b ∧ ρ' b = ρ b
  aft : After h h'
theorem Got.refl {ρ : Ren} {S : Nat → Prop} {h : Heap} (hr : HR P ρ S w.heap.size (wz w) h w) : Got P w ρ S h ρ S h := ⟨hr, fun _ hb => ⟨hb, rfl⟩, After.refl h⟩
theorem Got.trans {ρ ρ1 ρ2 : Ren} {S S1 S2 : Nat → Prop} {h h1 h2 : Heap} (a : Got P w ρ S h ρ1 S1 h1) (b : Got P w ρ1 S1 h1 ρ2 S2 h2) : Got P w ρ S h ρ2 S2 h2 :=
  ⟨b.hr, fun i hi => let ⟨h3, h4⟩ := a.agree i hi; let ⟨h5, h6⟩ := b.agree i h3; ⟨h5, h6.trans h4⟩, a.aft.trans b.aft⟩
theorem Got.ok {ρ ρ1 : Ren} {S S1 : Nat → Prop} {h h1 : Heap} (a : Got P w ρ S h ρ1 S1 h1) : HOk h1 := fun b o hg => (a.hr.ids b (a.hr.objs b o hg).1).1
theorem Got.row {ρ : Ren} {S : Nat → Prop} {h : Heap} (hr : HR P ρ S w.heap.size (wz w) h w) {te : TypeId} {cs : List Value} {a : Addr} (ha : a.block < w.heap.size) (hc : ∀ i, i < cs.length → ∃ v, w.cell? ⟨a.block, a.off + i, none⟩ = some v ∧ VR ρ S (cs.getD i undef) v) :
    Got P w ρ S h (fun b => if b = h.next then ⟨a.block, a.off, 0, P.cellsOf te⟩ else ρ b) (fun b => S b ∨ b = h.next) (h.push (.row te cs false false)) := by
  have hag : ∀ b, S b → (S b ∨ b = h.next) ∧ (fun b => if b = h.next then (⟨a.block, a.off, 0, P.cellsOf te⟩ : Loc) else ρ b) b = ρ b := fun b hb => by
    have := (hr.ids b hb).1
    exact ⟨.inl hb, by simp only; rw [if_neg (by omega)]⟩
  have hold : ∀ i o, (h.push (.row te cs false false)).get i = some o → (i = h.next ∧ o = .row te cs false false) ∨ (i ≠ h.next ∧ h.get i = some o) := fun i o hg => by
    rw [Heap.get_push] at hg
    by_cases hi : i = h.next
    · rw [if_pos hi] at hg; exact .inl ⟨hi, (Option.some.inj hg).symm⟩
    rw [if_neg hi] at hg; exact .inr ⟨hi, hg⟩
  refine ⟨⟨fun i o hg => ?_, fun i j oi oj hi hj oi1 oj1 he => ?_, fun i o hg ho => ?_, fun i o hg ho => ?_, fun b hb => ?_, Nat.succ_pos _, z_below (Below.refl _ _), Nat.zero_le _, Nat.le_refl _⟩, hag, After.push h _⟩
  · rcases hold i o hg with ⟨rfl, rfl⟩ | ⟨hi, hg'⟩
    · refine ⟨.inr rfl, ?_⟩
      simp only [if_true]
      refine ⟨rfl, fun i hi => ?_⟩
      obtain ⟨v, h1, h2⟩ := hc i hi
      exact ⟨v, h1, h2.mono hag⟩
    obtain ⟨h1, h2⟩ := hr.objs i o hg'
    refine ⟨.inl h1, ?_⟩
    simp only [if_neg hi]
    exact h2.mono hag
  · rcases hold i oi hi with ⟨rfl, rfl⟩ | ⟨hi', hgi⟩
    · cases oi1
    rcases hold j oj hj with ⟨rfl, rfl⟩ | ⟨hj', hgj⟩
    · cases oj1
    simp only [if_neg hi', if_neg hj'] at he
    exact hr.inj i j oi oj hgi hgj oi1 oj1 he
  · rcases hold i o hg with ⟨rfl, rfl⟩ | ⟨hi, hg'⟩
    · cases ho
    simp only [if_neg hi]; exact hr.base i o hg' ho
  · rcases hold i o hg with ⟨rfl, rfl⟩ | ⟨hi, hg'⟩
    · simp only [if_true]; exact ha
    simp only [if_neg hi]; exact hr.ro i o hg' ho
  have hn : (h.push (.row te cs false false)).next = h.next + 1 := rfl
  rw [hn]
  rcases hb with hb | rfl
  · have := hr.ids b hb; exact ⟨by omega, this.2⟩
  have := hr.pos; exact ⟨by omega, by omega⟩

theorem trod_float {fuel : Nat} {t : TypeId} {cs : List Value} {x : DataW H × List MemPlace} {k : FloatKind} (ht : P.underlying t = some (.float k)) (h : DataW.trod enc P w base sp held fuel t cs = some x) : ∃ n, cs = [.float k n] ∧ (Lit.float k n).wf = true := by
  cases fuel with
  | zero => simp [DataW.trod] at h
  | succ n =>
    unfold DataW.trod at h
    rw [ht] at h
    split at h <;> simp_all

theorem mapM_all {α β : Type} (f : α → Option β) : ∀ (l : List α) (r : List β), l.mapM f = some r → l.length = r.length ∧ ∀ i (hi : i < l.length) (hr : i < r.length), f l[i] = some r[i]
  | [], r, h => by
    simp only [List.mapM_nil] at h
    obtain rfl := Option.some.inj h
    exact ⟨rfl, fun i hi => absurd hi (by simp)⟩
  | a :: l, r, h => by
    rw [List.mapM_cons] at h
    cases hf : f a with
    | none => rw [hf] at h; cases h
    | some b =>
      rw [hf] at h
      cases hl : l.mapM f with
      | none => rw [hl] at h; cases h
      | some bs =>
        rw [hl] at h
        obtain rfl := Option.some.inj h
        obtain ⟨h1, h2⟩ := mapM_all f l bs hl
        refine ⟨by simp [h1], fun i hi hr => ?_⟩
        cases i with
        | zero => exact hf
        | succ i => exact h2 i (by simpa using hi) (by simpa using hr)
theorem cells_some {a : Addr} {n : Nat} {cs : List Value} (h : w.cells? base a n = some cs) : cs.length = n ∧ ∀ i, i < n → w.cell? (a.add i) = some (cs.getD i undef) := by
  unfold World.cells? at h
  split at h
  · obtain ⟨h1, h2⟩ := mapM_all _ _ _ h
    rw [List.length_range] at h1
    refine ⟨h1.symm, fun i hi => ?_⟩
    have := h2 i (by simpa using hi) (by omega)
    rw [List.getElem_range] at this
    rw [this]
    simp [List.getD, show i < cs.length by omega]
  cases h
theorem cell_some {a : Addr} {v : Value} (h : w.cell? a = some v) : a.spot = none ∧ a.block < w.heap.size := by
  unfold World.cell? at h
  split at h
  · rename_i c _ _ hb
    refine ⟨?_, (Array.getElem?_eq_some_iff.1 hb).1⟩
    cases hs : a.spot with
    | none => rfl
    | some s => rw [hs] at h; cases h
  cases h

def Tells (P : Program) (w : World) (τ : Ty) (cs : List Value) : Prop := ∀ (ρ : Ren) (S : Nat → Prop) (h : Heap), HR P ρ S w.heap.size (wz w) h w →
  ∃ ρ' S' h' cs' x, Got P w ρ S h ρ' S' h' ∧ LR ρ' S' cs' cs ∧ RepC h' [] τ cs' x ∧ Wf τ x

theorem LR.one {ρ : Ren} {S : Nat → Prop} {v v' : Value} (h : VR ρ S v v') : LR ρ S [v] [v'] := LR.cons h LR.nil
theorem tells_elems {e : Ty} (a : Addr) (len : Nat) (hcs : ∀ i, i < len → ∃ cs, (∀ j, j < e.size → w.cell? (a.add (i * e.size + j)) = some (cs.getD j undef)) ∧ cs.length = e.size ∧ Tells P w e cs) :
    ∀ (ρ : Ren) (S : Nat → Prop) (h : Heap), HR P ρ S w.heap.size (wz w) h w → ∃ ρ' S' h' rs xs, Got P w ρ S h ρ' S' h' ∧ rs.length = len * e.size ∧ List.length xs = len ∧ (∀ i, i < len * e.size → ∃ v, w.cell? (a.add i) = some v ∧ VR ρ' S' (rs.getD i undef) v) ∧
      Elems h' [] e rs xs ∧ ∀ x ∈ (xs : List e.den), Wf e x := by
  induction len with
  | zero =>
    intro ρ S h hr
    exact ⟨ρ, S, h, [], [], Got.refl hr, by simp, rfl, fun i hi => by omega, Elems.nil, fun x hx => by cases hx⟩
  | succ n ih =>
    intro ρ S h hr
    obtain ⟨ρ1, S1, h1, rs, xs, g1, l1, l2, c1, e1, w1⟩ := ih (fun i hi => hcs i (by omega)) ρ S h hr
    obtain ⟨cs, k1, k2, k3⟩ := hcs n (by omega)
    obtain ⟨ρ2, S2, h2, cs', x, g2, lr, rc, wf⟩ := k3 ρ1 S1 h1 g1.hr
    have hN : Goes h1 [] h2 [] := g2.aft.nx g1.ok
    have hl : cs'.length = e.size := rc.len
    have hel : Elems h2 [] e cs' [x] := by
      refine ⟨by simpa using hl, fun i hi => ?_⟩
      obtain rfl : i = 0 := by simpa using hi
      simp only [Nat.zero_mul, List.drop_zero, List.getElem_cons_zero]
      rw [List.take_of_length_le (by omega)]
      exact rc
    refine ⟨ρ2, S2, h2, rs ++ cs', xs ++ [x], g1.trans g2, by rw [List.length_append, l1, hl, Nat.add_mul]; omega, by simp [l2], fun i hi => ?_, (e1.nx hN).append hel, fun y hy => ?_⟩
    · rw [Nat.add_mul, Nat.one_mul] at hi
      by_cases hin : i < n * e.size
      · obtain ⟨v, hv1, hv2⟩ := c1 i hin
        refine ⟨v, hv1, ?_⟩
        rw [List.getD_eq_getElem?_getD, List.getElem?_append_left (by omega), ← List.getD_eq_getElem?_getD]
        exact hv2.mono g2.agree
      have hj : i - n * e.size < e.size := by omega
      refine ⟨cs.getD (i - n * e.size) undef, ?_, ?_⟩
      · have := k1 (i - n * e.size) hj
        rwa [show n * e.size + (i - n * e.size) = i by omega] at this
      rw [List.getD_eq_getElem?_getD, List.getElem?_append_right (by omega), l1, ← List.getD_eq_getElem?_getD]
      exact lr.getD _
    rcases List.mem_append.1 hy with hy | hy
    · exact w1 y hy
    obtain rfl := List.mem_singleton.1 hy; exact wf
theorem Addr.add_spot {a : Addr} (h : a.spot = none) (n : Nat) : a.add n = ⟨a.block, a.off + n, none⟩ := by
  obtain ⟨b, o, s⟩ := a
  simp only at h
  subst h
  unfold Addr.add
  by_cases hn : n = 0
  · subst hn; simp
  simp [hn]
theorem tells_fields {n : Nat} (ih : ∀ (t : TypeId) (τ : Ty), tyB P n t τ = true → ∀ (fuel : Nat) (cs : List Value) (x : DataW H × List MemPlace), DataW.trod enc P w base sp held fuel t cs = some x → Tells P w τ cs) :
    ∀ (fs : List Field) (off : Nat) (τ : Ty) (cs : List Value) (m : Nat), fsB P (tyB P n) fs off τ = true → cs.length = off + τ.size → (∀ f ∈ fs, ∃ x, DataW.trod enc P w base sp held m f.type ((cs.drop f.offset).take (P.cellsOf f.type)) = some x) → Tells P w τ (cs.drop off) := by
  have one : ∀ (f : Field) (off : Nat) (τ : Ty) (cs : List Value) (m : Nat), f.offset = off → P.cellsOf f.type = τ.size → tyB P n f.type τ = true → off + τ.size ≤ cs.length → (∃ x, DataW.trod enc P w base sp held m f.type ((cs.drop f.offset).take (P.cellsOf f.type)) = some x) → Tells P w τ ((cs.drop off).take τ.size) := by
    intro f off τ cs m h1 h2 h3 h4 ⟨x, hx⟩
    rw [h1, h2] at hx
    exact ih f.type τ h3 m _ x hx
  intro fs
  induction fs with
  | nil => intro off τ cs m hb; cases hb
  | cons f fs ihf =>
    intro off τ cs m hb hl hall
    have hf := hall f List.mem_cons_self
    cases fs with
    | nil =>
      by_cases hs : ∃ a, τ = .pair a .unit
      · obtain ⟨a, rfl⟩ := hs
        have hb' : (Nat.beq f.offset off && Nat.beq (P.cellsOf f.type) a.size && tyB P n f.type a) = true := hb
        obtain ⟨hb', h3⟩ := band hb'
        obtain ⟨h1, h2⟩ := band hb'
        have hs : (Ty.pair a .unit).size = a.size := by simp [Ty.size]
        rw [hs] at hl
        have := one f off a cs m (nbeq h1) (nbeq h2) h3 (by omega) hf
        intro ρ S h hr
        obtain ⟨ρ', S', h', cs', x, g, lr, rc, wf⟩ := this ρ S h hr
        have e1 : (cs.drop off).take a.size = cs.drop off := List.take_of_length_le (by rw [List.length_drop]; omega)
        rw [e1] at lr
        have hcl := rc.len
        exact ⟨ρ', S', h', cs', (x, ()), g, lr, ⟨by rw [List.take_of_length_le (by omega)]; exact rc, by rw [List.drop_eq_nil_of_le (by omega)]; rfl⟩, wf, trivial⟩
      have hb' : (Nat.beq f.offset off && Nat.beq (P.cellsOf f.type) τ.size && tyB P n f.type τ) = true := by
        cases τ with
        | pair a b =>
          cases b with
          | unit => exact absurd ⟨a, rfl⟩ hs
          | _ => exact hb
        | _ => exact hb
      obtain ⟨hb', h3⟩ := band hb'
      obtain ⟨h1, h2⟩ := band hb'
      have := one f off τ cs m (nbeq h1) (nbeq h2) h3 (by omega) hf
      have e1 : (cs.drop off).take τ.size = cs.drop off := List.take_of_length_le (by rw [List.length_drop]; omega)
      rwa [e1] at this
    | cons g fs =>
      cases τ with
      | pair a b =>
        have hb' : (Nat.beq f.offset off && Nat.beq (P.cellsOf f.type) a.size && tyB P n f.type a && fsB P (tyB P n) (g :: fs) (off + a.size) b) = true := hb
        obtain ⟨hb', h4⟩ := band hb'
        obtain ⟨hb', h3⟩ := band hb'
        obtain ⟨h1, h2⟩ := band hb'
        have hs : (Ty.pair a b).size = a.size + b.size := rfl
        rw [hs] at hl
        have ha := one f off a cs m (nbeq h1) (nbeq h2) h3 (by omega) hf
        have hrest := ihf (off + a.size) b cs m h4 (by omega) (fun g hg => hall g (List.mem_cons_of_mem _ hg))
        intro ρ S h hr
        obtain ⟨ρ1, S1, h1', cs1, x1, g1, lr1, rc1, wf1⟩ := ha ρ S h hr
        obtain ⟨ρ2, S2, h2', cs2, x2, g2, lr2, rc2, wf2⟩ := hrest ρ1 S1 h1' g1.hr
        have hN : Goes h1' [] h2' [] := g2.aft.nx g1.ok
        have hc1 := rc1.len
        refine ⟨ρ2, S2, h2', cs1 ++ cs2, (x1, x2), g1.trans g2, ?_, ⟨?_, ?_⟩, wf1, wf2⟩
        · have := (lr1.mono g2.agree).append lr2
          rwa [show (cs.drop off).take a.size ++ cs.drop (off + a.size) = cs.drop off from by rw [← List.drop_drop, List.take_append_drop]] at this
        · rw [List.take_left' hc1]; exact rc1.nx hN
        rw [List.drop_left' hc1]; exact rc2
      | _ => cases hb

theorem tells : ∀ (n : Nat) (t : TypeId) (τ : Ty), tyB P n t τ = true → ∀ (fuel : Nat) (cs : List Value) (x : DataW H × List MemPlace), DataW.trod enc P w base sp held fuel t cs = some x → Tells P w τ cs := by
  intro n
  induction n with
  | zero => intro t τ h; cases h
  | succ n ih =>
    intro t τ hb fuel cs x hx
    unfold tyB at hb
    split at hb
    · rename_i k k' hu
      obtain rfl : k = k' := of_decide_eq_true hb
      obtain ⟨m, rfl, _, hwf⟩ := DataW.trod_int hu hx
      exact fun ρ S h hr => ⟨ρ, S, h, _, m, Got.refl hr, LR.one (.lit rfl), rfl, hwf⟩
    · rename_i hu
      obtain ⟨b, rfl, _⟩ := DataW.trod_bool hu hx
      exact fun ρ S h hr => ⟨ρ, S, h, _, b, Got.refl hr, LR.one (.lit rfl), rfl, trivial⟩
    · rename_i hu
      obtain ⟨s, rfl, _, hs⟩ := DataW.trod_string hu hx
      exact fun ρ S h hr => ⟨ρ, S, h, _, s, Got.refl hr, LR.one (.lit rfl), rfl, hs⟩
    · rename_i k k' hu
      obtain rfl : k = k' := of_decide_eq_true hb
      obtain ⟨m, rfl, hwf⟩ := trod_float hu hx
      exact fun ρ S h hr => ⟨ρ, S, h, _, m, Got.refl hr, LR.one (.lit rfl), rfl, hwf⟩
    · rename_i te e hu
      obtain ⟨hb, h3⟩ := band hb
      obtain ⟨h1, h2⟩ := band hb
      have hce := nbeq h1
      have hpos := nblt h2
      rcases DataW.trod_slice hu hx with ⟨rfl, _⟩ | ⟨a, len, cap, elems, rest, m, _, rfl, _, hba, hlc, hcap, hlen, hel, _⟩
      · exact fun ρ S h hr => ⟨ρ, S, h, [.slice none 0 0], [], Got.refl hr, LR.one (.lit rfl), ⟨_, rfl, .inl ⟨rfl, rfl⟩⟩, Nat.zero_le _, fun x hx => by cases hx⟩
      by_cases h0 : len = 0
      · subst h0
        exact fun ρ S h hr => ⟨ρ, S, h, [.slice (some ⟨0, 0, none⟩) 0 2], [], Got.refl hr, LR.one (.slice 0 0 0 2 cap a (Nat.zero_le _) (fun h => by cases h) (fun _ => rfl) (fun h => absurd rfl h)), ⟨_, rfl, .inr ⟨0, 0, 2, rfl, .inl rfl⟩⟩, Nat.zero_le _, fun x hx => by cases hx⟩
      have hcs : ∀ i, i < len → ∃ cs, (∀ j, j < e.size → w.cell? (a.add (i * e.size + j)) = some (cs.getD j undef)) ∧ cs.length = e.size ∧ Tells P w e cs := by
        intro i hi
        have := hel i hi
        rw [List.getElem?_eq_getElem (by omega)] at this
        rw [hce] at this
        cases hc : w.cells? base (a.add (i * e.size)) e.size with
        | none => rw [hc] at this; cases this
        | some cs =>
          rw [hc] at this
          obtain ⟨k1, k2⟩ := cells_some hc
          refine ⟨cs, fun j hj => ?_, k1, ih te e h3 m cs _ this⟩
          rw [← k2 j hj]
          congr 1
          obtain ⟨b, o, s⟩ := a
          unfold Addr.add
          by_cases hx1 : i * e.size = 0
          · simp [hx1]
          by_cases hx2 : j = 0
          · subst hx2; simp [hx1]
          simp [hx1, hx2, Nat.add_assoc]
      have hfirst : a.spot = none ∧ a.block < w.heap.size := by
        obtain ⟨cs, k1, _⟩ := hcs 0 (by omega)
        have := k1 0 hpos
        rw [Nat.zero_mul, Nat.zero_add] at this
        have h4 := cell_some this
        simpa [Addr.add] using h4
      intro ρ S h hr
      obtain ⟨ρ1, S1, h1', rs, xs, g1, l1, l2, c1, e1, w1⟩ := tells_elems (P := P) a len hcs ρ S h hr
      have hrow := Got.row (te := te) g1.hr (cs := rs) (a := a) hfirst.2 (fun i hi => by
        have := c1 i (by omega)
        rwa [Addr.add_spot hfirst.1] at this)
      have hsl : SlV (h1'.push (.row te rs false false)) [] e (.slice (some ⟨h1'.next, 0, none⟩) (List.length xs) 2) xs := (e1.nx (hrow.aft.nx g1.ok)).slv (by rw [Heap.get_push, if_pos rfl]) (by simp)
      refine ⟨_, _, _, [.slice (some ⟨h1'.next, 0, none⟩) (List.length xs) 2], xs, g1.trans hrow, ?_, ⟨_, rfl, hsl⟩, by omega, w1⟩
      rw [l2]
      refine LR.one (.slice h1'.next 0 len 2 cap a hlc (fun h => by cases h) (fun h5 => by have := g1.hr.pos; omega) fun _ => ⟨.inr rfl, ?_, fun h => by cases h⟩)
      simp only [if_true, Loc.at, Nat.add_zero]
      obtain ⟨b, o, s⟩ := a
      simp only at hfirst
      rw [hfirst.1]
    · rename_i fs a b hu
      obtain ⟨h1, h2⟩ := band hb
      obtain ⟨xs, m, _, _, hl, hsz, hall⟩ := DataW.trod_struct hu hx
      have hcl : cs.length = (Ty.pair a b).size := by rw [hl, nbeq h1]
      have := tells_fields ih fs.toList 0 (.pair a b) cs m h2 (by omega) (fun f hf => by
        obtain ⟨i, hi, rfl⟩ := List.getElem_of_mem hf
        have hi' : i < fs.size := by simpa using hi
        have := hall i fs[i] (by simp [hi'])
        rw [List.getElem?_eq_getElem (by omega)] at this
        exact ⟨_, by simpa using this⟩)
      simpa using this
    cases hb

theorem okWide_agg {n : Nat} {r : Reach} {b0 : Nat} {t : TypeId} {τ : Ty} {v : Value} (hb : tyB P n t τ = true) (hval : Value.okWide P w r b0 t v) : isAggV v = τ.agg := by
  cases n with
  | zero => cases hb
  | succ n =>
    unfold tyB at hb
    unfold Value.okWide at hval
    split at hb
    · rename_i k k' hu
      rw [hu] at hval
      simp only [Cell.okWide, hu, Cell.ok] at hval
      cases v <;> simp_all [isAggV, Ty.agg]
    · rename_i hu
      rw [hu] at hval
      simp only [Cell.okWide, hu, Cell.ok] at hval
      cases v <;> simp_all [isAggV, Ty.agg]
    · rename_i hu
      rw [hu] at hval
      simp only [Cell.okWide, hu, Cell.ok] at hval
      cases v <;> simp_all [isAggV, Ty.agg]
    · rename_i k k' hu
      rw [hu] at hval
      simp only [Cell.okWide, hu, Cell.ok] at hval
      cases v <;> simp_all [isAggV, Ty.agg]
    · rename_i te e hu
      rw [hu] at hval
      simp only [Cell.okWide, hu, Cell.ok] at hval
      cases v <;> simp_all [isAggV, Ty.agg]
    · rename_i fs a b hu
      rw [hu] at hval
      obtain ⟨cs, rfl, _⟩ := hval
      rfl
    cases hb
theorem tell_arg {ρ : Ren} {S : Nat → Prop} {h : Heap} (hr : HR P ρ S w.heap.size (wz w) h w) {n : Nat} {r : Reach} {b0 : Nat} {t : TypeId} {τ : Ty} {v : Value} {d : DataW H} {ps : List MemPlace} (hb : tyB P n t τ = true) (hval : Value.okWide P w r b0 t v) (hd : DataW.Trod enc P w base sp held t v d ps) :
    ∃ ρ' S' h' v' x, Got P w ρ S h ρ' S' h' ∧ VR ρ' S' v' v ∧ RepV h' [] τ v' x ∧ Wf τ x := by
  have hag := okWide_agg hb hval
  obtain ⟨fuel, hf⟩ := hd
  obtain ⟨ρ', S', h', cs', x, g, lr, rc, wf⟩ := tells n t τ hb fuel _ _ hf ρ S h hr
  cases hτ : τ.agg with
  | true =>
    rw [hτ] at hag
    cases v with
    | agg cs =>
      refine ⟨ρ', S', h', .agg cs'.toArray, x, g, VR.agg' (by simpa [Value.cells] using lr), ⟨hτ.symm, by simpa [Value.cells] using rc⟩, wf⟩
    | _ => cases hag
  | false =>
    rw [hτ] at hag
    rw [cells_one hag] at lr
    obtain ⟨u, rfl, hu⟩ := rc.one hτ
    have := lr.2 0 (by simp)
    exact ⟨ρ', S', h', u, x, g, by simpa using this, hu, wf⟩
theorem hr_empty (hw : 0 ≤ w.heap.size) : HR P (fun _ => ⟨0, 0, 0, 0⟩) (fun _ => False) w.heap.size (wz w) ⟨1, 1, []⟩ w where
  objs := fun i o h => by cases h
  inj := fun i j oi oj h => by cases h
  base := fun i o h => by cases h
  ro := fun i o h => by cases h
  ids := fun b hb => hb.elim
  pos := Nat.one_pos
  below := z_below (Below.refl _ _)
  drawn := Nat.zero_le _
  size := Nat.le_refl _

section
open Go.WideElems Go.ChangeShapes
theorem trodAll_below (hl : laidOutB P = true) {W W' : World} (hb : Below W.heap.size W W') : ∀ {ts : List TypeId} {vs : List Value} {ds : List (DataW H)} {ps : List MemPlace}, (ts.all fun t => P.readableRec t && decide (t < P.types.size)) = true →
    DataW.TrodAll enc P W 0 (fun _ => true) true ts vs ds ps → (∀ x ∈ ps, x.block < W.heap.size) → DataW.TrodAll enc P W' 0 (fun b => decide (b < W.heap.size)) true ts vs ds ps
  | [], [], [], _, _, h, _ => h
  | [], _ :: _, _, _, _, h, _ => h.elim
  | [], [], _ :: _, _, _, h, _ => h.elim
  | _ :: _, [], _, _, _, h, _ => h.elim
  | _ :: _, _ :: _, [], _, _, h, _ => h.elim
  | t :: ts, v :: vs, d :: ds, ps, ha, h, hp => by
    obtain ⟨p, q, h1, h2, rfl⟩ := h
    simp only [List.all_cons, Bool.and_eq_true, decide_eq_true_eq] at ha
    exact ⟨p, q, Go.RowKit.Below.trod hl ha.1.1 ha.1.2 h1 hb (fun x hx => hp x (List.mem_append_left _ hx)), trodAll_below hl hb (by simpa using ha.2) h2 (fun x hx => hp x (List.mem_append_right _ hx)), rfl⟩
theorem law_post {f : Func} {s : ChangeSpec} {tb : TypeId} (hl : laidOutB P = true) (hrd : (f.params.toList.all fun t => P.readableRec t && decide (t < P.types.size)) = true) (hres : f.resultTypes = #[tb]) (htb : P.underlying tb = some .bool) (hvars : s.vars = []) {W W' : World} {args : Array Value} {ds gs : List (DataW H)}
    {before : List MemPlace} (hW : DataW.Whole enc P f.params.toList s.vars false W args.toList ds gs before) (hr : (s.fn H (ds ++ gs)).results = [.lit (.bool true)]) (ha : (s.fn H (ds ++ gs)).args = ds) (hv : (s.fn H (ds ++ gs)).vars = []) (hb : Below W.heap.size W W') :
    s.post enc P f false true false false W args (.bool true) W' := by
  have hlt := hW.lt
  have hW' := hW
  obtain ⟨p, q, hA, hV, rfl, _, _⟩ := hW
  rw [hvars] at hV
  have hV' : gs = [] ∧ q = [] := trodVars_none hV
  obtain ⟨rfl, rfl⟩ := hV'
  refine ⟨ds, [], p ++ [], [], p, [], hW', ?_, ?_, ?_, hb.frame _, fun h => by cases h⟩
  · rw [hr, hres]
    exact trodAll_mk1 (Go.RowKit.shut_bool htb _)
  · rw [ha]
    exact trodAll_below hl hb hrd hA fun x hx => hlt x (List.mem_append_left _ hx)
  rw [hvars, hv]
  exact rfl
end
theorem law_calls2 (hP : ProgOk P) {orc : FuncId → List Value → Heap → Option (Value × Heap)} {W : World} (horc : CallSound P W.heap.size (wz W) orc) {f : FuncId} (hen : Enters P f) {fn : Func} {n : Nat} {t0 t1 : TypeId} {τ0 τ1 : Ty} (hp : fn.params = #[t0, t1]) (hb0 : tyB P n t0 τ0 = true) (hb1 : tyB P n t1 τ1 = true)
    (hE : ∀ (h : Heap) (v0 v1 : Value) (x0 : τ0.den) (x1 : τ1.den), HOk h → RepV h [] τ0 v0 x0 → RepV h [] τ1 v1 x1 → Wf τ0 x0 → Wf τ1 x1 → EvF P orc f [v0, v1] h fun r h' => r = .bool true ∧ h' = h)
    {args : Array Value} {ds : List (DataW H)} {ps : List MemPlace} (hval : ∀ (j : Nat) t v, fn.params[j]? = some t → args[j]? = some v → Value.okWide P W .any base t v) (hA : DataW.TrodAll enc P W 0 sp held fn.params.toList args.toList ds ps) :
    Calls P f args W fun | .returned v', w' => v' = .bool true ∧ Below W.heap.size W w' | _, _ => False := by
  rw [hp] at hA hval
  obtain ⟨v0, vs0, d0, ds0, p0, q0, ha, rfl, rfl, k0, r0⟩ := Go.ChangeShapes.trodAll_cons hA
  obtain ⟨v1, vs1, d1, ds1, p1, q1, rfl, rfl, rfl, k1, r1⟩ := Go.ChangeShapes.trodAll_cons r0
  obtain ⟨rfl, rfl, rfl⟩ := Go.ChangeShapes.trodAll_nil r1
  obtain rfl : args = #[v0, v1] := by cases args; simp_all
  obtain ⟨ρ0, S0, h0, u0, x0, g0, c0, e0, w0⟩ := tell_arg (hr_empty (P := P) (w := W) (Nat.zero_le _)) hb0 (hval 0 t0 v0 rfl rfl) k0
  obtain ⟨ρ1, S1, h1, u1, x1, g1, c1, e1, w1⟩ := tell_arg g0.hr hb1 (hval 1 t1 v1 rfl rfl) k1
  have hR := hE h1 u0 u1 x0 x1 g1.ok (e0.nx (g1.aft.nx g0.ok)) e1 w0 w1
  refine (fs_open (args' := [v0, v1]) hP horc hen g1.hr (LR.cons (c0.mono g1.agree) (LR.one c1)) (EvF.mono hR fun v h' h => h.1) rfl).mono fun e w' he => ?_
  cases e with
  | returned v => exact ⟨he.1, below_z he.2⟩
  | panicked c => exact he
  | outgrown => exact he
end Go.Fs
namespace Go.Proofs.YtligdjefbiebjaaGreatDoor
open Go.ChangeShapes Go.WideShapes Go.ChangeAt Go.RowKit Go.Fs

theorem own : ownKnob Tryz.prog.godebug = none := by kernel_rfl
theorem laidOut : laidOutB Tryz.prog = true := by kernel_rfl
theorem gPow : ∃ g : Nat, Tryz.prog.globalNamed "internal/strconv.uint64pow10" = some g ∧ (Tryz.prog.globals[g]?).map (·.type) = some 275 := ⟨1, by kernel_rfl, by kernel_rfl⟩
theorem powTab {W : World} {a b : String × DataW Unit} (h : laidMet Tryz.prog [a, b, ("internal/strconv.uint64pow10", Rows.laid_internal_strconv_uint64pow10)] W) : Lib.TabIs Tryz.prog W "internal/strconv.uint64pow10" .u64 Lib.pow10Tab := by
  obtain ⟨g, h1, h2⟩ := gPow
  exact Lib.tabIs_of_head (rest := []) h1 h2 Tryz.underlying275 Tryz.underlying246 (by kernel_rfl) (by kernel_rfl) (laidMet.tail (laidMet.tail h))
theorem tzSort : Fs.Enters Tryz.prog 178 := ⟨_, Tryz.func178, rfl, by kernel_rfl⟩
theorem tzSortC : Fs.Enters Tryz.prog 137 := ⟨_, Tryz.func137, rfl, by kernel_rfl⟩
theorem tzCmpE : Fs.Enters Tryz.prog 138 := ⟨_, Tryz.func138, rfl, by kernel_rfl⟩
theorem tzCmp (x y : Cl3) : EvF Tryz.prog orcN 138 [.agg (encC x).toArray, .agg (encC y).toArray] ⟨1, 1, []⟩ fun u _ => u = .int .i64 (cmpC x y) := by
  have hr : ∀ x : Cl3, RepPV ⟨1, 1, []⟩ [] (.v yC x) (.agg (encC x).toArray) := fun x => ⟨rfl, rfl, rfl, rfl⟩
  exact (Cmp.nClash_ok (x := x) (y := y) ⟨1, 1, []⟩ [] [.agg (encC x).toArray, .agg (encC y).toArray] (fun b o hg => by cases hg) (fun b hb => by cases hb) ⟨_, _, rfl, hr x, _, _, rfl, hr y, rfl⟩).mono fun u h' hq => RepV.int hq.2.1
/-- The sort of clashes by the library's contract. -/
theorem tzSortT {B : Nat} {w0 : World} (blk cap n : Nat) (vs vs' : List Value) (w : World) (hl : vs.length = n * 3) (hs : srtV vs = some vs') (hb : Below B w0 w) (hH : Go.Sort.Holds id w blk 0 vs.toArray) (hblk : blk < w.heap.size) (hn : n ≤ 1000000) :
    Calls Tryz.prog 137 #[.slice (some ⟨blk, 0, none⟩) n cap, .func (.func 138) #[] #[]] w fun e w' => e = .returned (.tuple #[]) ∧ ∃ q os, w' = Go.Sort.grow (Go.Sort.putRow id (Go.Sort.ahead w q) blk 0 vs'.toArray) os := by
  obtain ⟨xs, rfl, rfl⟩ := srtV_inv hs
  have hxs : xs.length = n := by rw [encC_len] at hl; omega
  have hflat : ∀ ys : List Cl3, Go.Sort.flatK encC 3 ys.toArray = (ys.flatMap encC).toArray := flatC
  have hcmp := cmp_lays (P := Tryz.prog) tzOk tzCmpE (enc := encC) (k := 3) (cf := cmpC) (blk := blk) (off := 0) (size := xs.toArray.size) (w := w) (fun x => rfl) tzCmp
  have hcon := AnyQ.slices_SortFunc_eq Tryz.sortClash 3 Tryz.isAgg127 Tryz.sizeOf127 encC (fun _ => rfl) (fun x v hv => by simp [encC] at hv; rcases hv with rfl | rfl | rfl <;> rfl) cmpC swoC 138 #[] blk 0 cap xs.toArray w (callFunc_run tzCmpE) hcmp (by unfold Go.Sort.HoldsK; rw [hflat]; exact hH) hblk (by simp; omega)
  have hcon : Calls Tryz.prog 137 #[.slice (some ⟨blk, 0, none⟩) xs.toArray.size cap, .func (.func 138) #[] #[]] w _ := hcon
  rw [show xs.toArray.size = n by simpa using hxs] at hcon
  refine hcon.mono fun e w' he => ?_
  obtain ⟨he, q, os, hw⟩ := he
  refine ⟨he, q, os, ?_⟩
  rw [hw]
  unfold Go.Proofs.sortWorldK Go.Sort.putRowK
  have e2 : (Go.Sort.pdq (ltOf cmpC) xs.toArray 0 n (Lib.bitLen n) true true) = (Fs.sortC xs).toArray := by unfold Fs.sortC; simp [hxs]
  rw [e2, hflat]
/-- The oracle is sound wherever the table of powers lies. -/
theorem orcOk {W : World} (ht : Lib.TabIs Tryz.prog W "internal/strconv.uint64pow10" .u64 Lib.pow10Tab) : CallSound Tryz.prog W.heap.size (wz W) OA := by
  have hT : ∀ w, Below W.heap.size W w → Lib.TabIs Tryz.prog w "internal/strconv.uint64pow10" .u64 Lib.pow10Tab := Lib.tabBelow_of_tabIs ht
  have hS : ∀ w, Below W.heap.size W w → CallSound Tryz.prog w.heap.size (wz w) OB := fun w hw =>
    tzOrcB rfl (Nat.le_refl _) fun w' hw' => hT w' (hw.trans ((below_z hw').mono hw.size))
  refine orcF_sound rfl srtV_ok ?_ tzSortC (fun w hw => (AnyF.slices_SortFunc_none Tryz.sortClash none 0 _ w).mono fun e w' he => by obtain ⟨rfl, rfl⟩ := he; exact ⟨rfl, Below.refl _ _⟩) tzSortT
  refine orcT_sound rfl ?_ tzSort (fun w hw => fsX_closed tzOk (hS w (below_z hw)) (m := 300) (args := [.slice none 0 0]) rfl (by kernel_rfl) rfl) fun blk off cap ss w hH hblk hsz => Tryz.slices_Sort_string blk off cap ss w hH hblk hsz
  exact orcA_sound rfl (tzOrc rfl (Nat.le_refl _) fun w' hw' => hT w' (below_z hw')) tzAwakeE fun w hw => awakeX_calls tzOk (fun w' hw' => hS w' (below_z hw')) tzRun w hw

noncomputable def doorWorld (os : Os) : World := World.doorLaid Tryz.prog 24 os
end Go.Proofs.YtligdjefbiebjaaGreatDoor
