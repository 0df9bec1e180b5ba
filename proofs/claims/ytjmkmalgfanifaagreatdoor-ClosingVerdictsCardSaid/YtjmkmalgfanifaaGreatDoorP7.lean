/- Parts of the proof: an evaluator of the model, what it is sound for, and contracts of functions. No condition. -/
import Derived.Test.YtjmkmalgfanifaaGreatDoorP6
import Derived.Test.YtjmkmalgfanifaaGreatDoorRows
import Derived.LaidMore
import Derived.LaidSub
import Derived.ChangeSame
import Derived.Lib.LaidTab
import Derived.Stop.LaidErr
import Derived.Test.YtjmkmalgfanifaaGreatDoorP3
import Derived.Test.YtjmkmalgfanifaaGreatDoorP5
import Derived.Sort.AssemblyPlain
import Derived.Shelf.SlSortCmp.InsertionK
import Derived.Lib.QuietBelow
import Derived.Test.YtjmkmalgfanifaaGreatDoorProg
import Derived.KernelRfl
import Derived.Shelf.SlSortCmp.WholeK
import Derived.Shelf.SlSortCmp.NoneTotal
import Derived.Test.YtjmkmalgfanifaaGreatDoorCards
import Derived.Test.YtjmkmalgfanifaaGreatDoorTie
import Derived.WalkKit
import Derived.ProofKit
import Derived.Deep.DeepHandedRow
set_option linter.all false
namespace Go.Proofs
open Go.Fs
noncomputable def tzC : Code := match Tryz.f14.body with | some c => c | none => .skip
noncomputable def tzx0 : Tr := (.node (.int .i64 0) (.node (.bool false) .leaf .leaf) .leaf)
noncomputable def tzx1 : Tr := (.node (.int .i64 24) (.node (.bool true) .leaf .leaf) .leaf)
noncomputable def tzx2 : Tr := (.node (.tuple #[.slice none 0 0, .int .i64 24]) .leaf .leaf)
noncomputable def tzx3 : Tr := (.node (.int .i64 0) (.node (.int .i64 0) .leaf .leaf) .leaf)
noncomputable def tzx4 : Tr := (.node (.bool false) (.node (.int .i64 0) .leaf .leaf) .leaf)
noncomputable def tzx5 : Tr := (.node (.string ⟨#[109, 105, 115, 115, 101, 100]⟩) .leaf .leaf)
noncomputable def tzx6 : Tr := (.node (.tuple #[.slice (some ⟨6, 0, none⟩) 4 0, .int .i64 0]) .leaf .leaf)
noncomputable def tzx7 : Tr := (.node (.tuple #[.slice (some ⟨15, 0, none⟩) 4 0, .int .i64 0]) .leaf .leaf)
noncomputable def tzx8 : Tr := (.node (.tuple #[.slice (some ⟨94, 0, none⟩) 4 0, .int .i64 0]) .leaf .leaf)
noncomputable def tzx9 : Tr := (.node (.tuple #[.slice (some ⟨68, 0, none⟩) 3 0, .int .i64 0]) .leaf .leaf)
noncomputable def tzx10 : Tr := (.node (.tuple #[.string ⟨#[107, 101, 112, 116]⟩, .int .i64 0]) .leaf .leaf)
noncomputable def tzx11 : Tr := (.node (.tuple #[.string ⟨#[111, 112, 101, 110]⟩, .int .i64 0]) .leaf .leaf)
noncomputable def tzx12 : Tr := (.node (.tuple #[.slice (some ⟨162, 0, none⟩) 4 0, .int .i64 0]) .leaf .leaf)
noncomputable def tzx13 : Tr := (.node (.tuple #[.slice (some ⟨119, 0, none⟩) 4 0, .int .i64 0]) .leaf .leaf)
noncomputable def tzx14 : Tr := (.node (.tuple #[.slice (some ⟨283, 0, none⟩) 2 0, .int .i64 0]) .leaf .leaf)
noncomputable def tzx15 : Tr := (.node (.tuple #[.slice (some ⟨248, 0, none⟩) 3 0, .int .i64 0]) .leaf .leaf)
noncomputable def tzx16 : Tr := (.node (.tuple #[.slice (some ⟨315, 0, none⟩) 2 0, .int .i64 0]) .leaf .leaf)
noncomputable def tzx17 : Tr := (.node (.tuple #[.slice (some ⟨590, 0, none⟩) 1 0, .int .i64 0]) .leaf .leaf)
noncomputable def tzx18 : Tr := (.node (.tuple #[.slice (some ⟨658, 0, none⟩) 3 0, .int .i64 0]) .leaf .leaf)
noncomputable def tzx19 : Tr := (.node (.tuple #[.agg #[.int .i64 6, .int .i64 11], .int .i64 0]) .leaf .leaf)
noncomputable def tzx20 : Tr := (.node (.slice (some ⟨72, 0, none⟩) 4 0) (.node (.bool true) .leaf .leaf) .leaf)
noncomputable def tzx21 : Tr := (.node (.slice (some ⟨68, 0, none⟩) 3 0) (.node (.bool false) .leaf .leaf) .leaf)
noncomputable def tzx22 : Tr := (.node (.int .i64 0) (.node (.slice (some ⟨68, 0, none⟩) 3 0) .leaf .leaf) .leaf)
noncomputable def tzx23 : Tr := (.node (.slice (some ⟨94, 0, none⟩) 4 0) (.node (.bool false) .leaf .leaf) .leaf)
noncomputable def tzx24 : Tr := (.node (.slice (some ⟨162, 0, none⟩) 4 0) (.node (.bool true) .leaf .leaf) .leaf)
noncomputable def tzx25 : Tr := (.node (.int .i64 0) (.node (.string ⟨#[107, 101, 112, 116]⟩) .leaf .leaf) .leaf)
noncomputable def tzx26 : Tr := (.node (.slice (some ⟨165, 0, none⟩) 4 0) (.node (.bool false) .leaf .leaf) .leaf)
noncomputable def tzx27 : Tr := (.node (.slice (some ⟨119, 0, none⟩) 4 0) (.node (.bool false) .leaf .leaf) .leaf)
noncomputable def tzx28 : Tr := (.node (.int .i64 0) (.node (.slice (some ⟨209, 0, none⟩) 4 0) .leaf .leaf) .leaf)
noncomputable def tzx29 : Tr := (.node (.slice (some ⟨168, 0, none⟩) 4 0) (.node (.bool false) .leaf .leaf) .leaf)
noncomputable def tzx30 : Tr := (.node (.bool false) (.node (.slice (some ⟨590, 0, none⟩) 1 0) .leaf .leaf) .leaf)
noncomputable def tzx31 : Tr := (.node (.slice none 0 0) (.node (.slice (some ⟨208, 0, none⟩) 4 0) .leaf .leaf) .leaf)
noncomputable def tzx32 : Tr := (.node (.tuple #[.string ⟨#[109, 105, 115, 115, 101, 100]⟩, .int .i64 0]) .leaf .leaf)
noncomputable def tzx33 : Tr := (.node (.bool false) (.node (.int .i64 0) .leaf .leaf) (.node (.bool true) .leaf .leaf))
noncomputable def tzx34 : Tr := (.node (.int .i64 0) (.node (.bool true) .leaf .leaf) (.node (.bool false) .leaf .leaf))
noncomputable def tzx35 : Tr := (.node (.tuple #[.slice none 0 0, .int .i64 24]) (.node (.bool false) .leaf .leaf) .leaf)
noncomputable def tzx36 : Tr := (.node (.int .i64 0) (.node (.bool false) .leaf .leaf) (.node (.int .i64 0) .leaf .leaf))
noncomputable def tzx37 : Tr := (.node (.int .i64 0) (.node (.bool false) .leaf .leaf) (.node (.bool false) .leaf .leaf))
noncomputable def tzx38 : Tr := (.node (.int .i64 24) (.node (.bool true) .leaf .leaf) (.node (.int .i64 0) .leaf .leaf))
noncomputable def tzx39 : Tr := (.node (.int .i64 0) (.node (.int .i64 0) .leaf .leaf) (.node (.bool false) .leaf .leaf))
noncomputable def tzx40 : Tr := (.node (.bool false) (.node (.int .i64 24) .leaf .leaf) (.node (.bool false) .leaf .leaf))
noncomputable def tzx41 : Tr := (.node (.bool false) (.node (.slice none 0 0) .leaf .leaf) (.node (.int .i64 6) .leaf .leaf))
noncomputable def tzx42 : Tr := (.node (.slice (some ⟨97, 0, none⟩) 4 0) (.node (.slice (some ⟨206, 0, none⟩) 4 0) .leaf .leaf) .leaf)
noncomputable def tzx43 : Tr := (.node (.tuple #[]) .leaf tzx7)
noncomputable def tzx44 : Tr := (.node (.tuple #[]) tzx8 .leaf)
noncomputable def tzx45 : Tr := (.node (.slice (some ⟨202, 0, none⟩) 4 0) (.node (.slice (some ⟨202, 0, none⟩) 4 0) .leaf .leaf) .leaf)
noncomputable def tzx46 : Tr := (.node (.slice (some ⟨128, 0, none⟩) 4 0) (.node (.slice (some ⟨119, 0, none⟩) 4 0) .leaf .leaf) .leaf)
noncomputable def tzx47 : Tr := (.node (.slice (some ⟨205, 0, none⟩) 3 0) (.node (.slice (some ⟨440, 0, none⟩) 3 0) .leaf .leaf) .leaf)
noncomputable def tzx48 : Tr := (.node (.tuple #[]) tzx13 .leaf)
noncomputable def tzx49 : Tr := (.node (.tuple #[.slice (some ⟨94, 0, none⟩) 4 0, .int .i64 0]) (.node (.bool false) .leaf .leaf) .leaf)
noncomputable def tzx50 : Tr := (.node (.tuple #[.slice (some ⟨119, 0, none⟩) 4 0, .int .i64 0]) (.node (.bool true) .leaf .leaf) .leaf)
noncomputable def tzx51 : Tr := (.node (.int .i64 0) tzx10 .leaf)
noncomputable def tzx52 : Tr := (.node (.bool false) tzx11 .leaf)
noncomputable def tzx53 : Tr := (.node (.bool true) tzx17 .leaf)
noncomputable def tzx54 : Tr := (.node (.tuple #[]) .leaf tzx19)
noncomputable def tzx55 : Tr := (.node (.tuple #[.slice (some ⟨202, 0, none⟩) 4 0, .int .i64 0]) (.node (.bool false) .leaf .leaf) .leaf)
noncomputable def tzx56 : Tr := (.node (.tuple #[.slice (some ⟨162, 0, none⟩) 4 0, .int .i64 0]) (.node (.bool false) .leaf .leaf) .leaf)
noncomputable def tzx57 : Tr := (.node (.int .i64 0) (.node (.string ⟨#[107, 101, 112, 116]⟩) .leaf .leaf) (.node (.bool false) .leaf .leaf))
noncomputable def tzx58 : Tr := (.node (.bool true) (.node (.slice (some ⟨225, 0, none⟩) 4 0) .leaf .leaf) (.node (.bool false) .leaf .leaf))
noncomputable def tzx59 : Tr := (.node (.int .i64 0) (.node (.bool false) .leaf .leaf) (.node (.string ⟨#[107, 101, 112, 116]⟩) .leaf .leaf))
noncomputable def tzx60 : Tr := (.node (.slice (some ⟨162, 0, none⟩) 4 0) (.node (.bool true) .leaf .leaf) (.node (.int .i64 0) .leaf .leaf))
noncomputable def tzx61 : Tr := (.node (.tuple #[.slice none 0 0, .int .i64 24]) (.node (.slice (some ⟨162, 0, none⟩) 4 0) .leaf .leaf) .leaf)
noncomputable def tzx62 : Tr := (.node (.int .i64 0) (.node (.slice (some ⟨213, 0, none⟩) 4 0) .leaf .leaf) (.node (.bool false) .leaf .leaf))
noncomputable def tzx63 : Tr := (.node (.slice (some ⟨165, 0, none⟩) 4 0) (.node (.bool false) .leaf .leaf) (.node (.int .i64 0) .leaf .leaf))
noncomputable def tzx64 : Tr := (.node (.slice (some ⟨119, 0, none⟩) 4 0) (.node (.bool false) .leaf .leaf) (.node (.int .i64 0) .leaf .leaf))
noncomputable def tzx65 : Tr := (.node (.int .i64 0) (.node (.slice (some ⟨209, 0, none⟩) 4 0) .leaf .leaf) (.node (.bool false) .leaf .leaf))
noncomputable def tzx66 : Tr := (.node (.int .i64 0) (.node (.slice (some ⟨217, 0, none⟩) 4 0) .leaf .leaf) (.node (.bool false) .leaf .leaf))
noncomputable def tzx67 : Tr := (.node (.bool false) (.node (.slice (some ⟨220, 0, none⟩) 4 0) .leaf .leaf) (.node (.bool false) .leaf .leaf))
noncomputable def tzx68 : Tr := (.node (.slice (some ⟨168, 0, none⟩) 4 0) (.node (.bool false) .leaf .leaf) (.node (.bool false) .leaf .leaf))
noncomputable def tzx69 : Tr := (.node (.int .i64 0) (.node (.slice (some ⟨212, 0, none⟩) 4 0) .leaf .leaf) (.node (.bool false) .leaf .leaf))
noncomputable def tzx70 : Tr := (.node (.bool false) (.node (.int .i64 0) .leaf .leaf) (.node (.slice (some ⟨315, 0, none⟩) 2 0) .leaf .leaf))
noncomputable def tzx71 : Tr := (.node (.int .i64 24) (.node (.slice (some ⟨221, 0, none⟩) 4 0) .leaf .leaf) (.node (.bool false) .leaf .leaf))
noncomputable def tzx72 : Tr := (.node (.slice none 0 0) (.node (.slice (some ⟨208, 0, none⟩) 4 0) .leaf .leaf) (.node (.int .i64 0) .leaf .leaf))
noncomputable def tzx73 : Tr := (.node (.bool true) tzx2 (.node (.bool false) .leaf .leaf))
noncomputable def tzx74 : Tr := (.node (.tuple #[.slice none 0 0, .int .i64 24]) (.node (.bool false) .leaf .leaf) (.node (.int .i64 0) .leaf .leaf))
noncomputable def tzx75 : Tr := (.node (.int .i64 0) (.node (.int .i64 0) .leaf .leaf) tzx5)
noncomputable def tzx76 : Tr := (.node (.tuple #[.slice (some ⟨94, 0, none⟩) 4 0, .int .i64 0]) (.node (.slice (some ⟨205, 0, none⟩) 3 0) .leaf .leaf) .leaf)
noncomputable def tzx77 : Tr := (.node (.tuple #[.slice (some ⟨119, 0, none⟩) 4 0, .int .i64 0]) (.node (.slice (some ⟨94, 0, none⟩) 4 0) .leaf .leaf) .leaf)
noncomputable def tzx78 : Tr := (.node (.slice (some ⟨68, 0, none⟩) 3 0) tzx17 .leaf)
noncomputable def tzx79 : Tr := (.node (.tuple #[.slice (some ⟨162, 0, none⟩) 4 0, .int .i64 0]) (.node (.slice (some ⟨207, 0, none⟩) 4 0) .leaf .leaf) .leaf)
noncomputable def tzx80 : Tr := (.node (.slice (some ⟨72, 0, none⟩) 4 0) (.node (.bool true) .leaf .leaf) (.node (.slice (some ⟨283, 0, none⟩) 2 0) .leaf .leaf))
noncomputable def tzx81 : Tr := (.node (.agg #[.slice (some ⟨227, 0, none⟩) 2 0, .slice (some ⟨228, 0, none⟩) 2 0, .slice (some ⟨231, 0, none⟩) 2 0]) .leaf .leaf)
noncomputable def tzx82 : Tr := (.node (.slice (some ⟨97, 0, none⟩) 4 0) (.node (.slice (some ⟨206, 0, none⟩) 4 0) .leaf .leaf) (.node (.int .i64 6) .leaf .leaf))
noncomputable def tzx83 : Tr := (.node (.agg #[.slice (some ⟨233, 0, none⟩) 2 0, .slice (some ⟨234, 0, none⟩) 2 0, .slice (some ⟨237, 0, none⟩) 2 0]) .leaf .leaf)
noncomputable def tzx84 : Tr := (.node (.agg #[.slice (some ⟨285, 0, none⟩) 2 0, .slice (some ⟨286, 0, none⟩) 2 0, .slice (some ⟨289, 0, none⟩) 2 0]) .leaf .leaf)
noncomputable def tzx85 : Tr := (.node (.bool false) (.node (.string ⟨#[111, 112, 101, 110]⟩) .leaf .leaf) (.node (.slice (some ⟨290, 0, none⟩) 3 0) .leaf .leaf))
noncomputable def tzx86 : Tr := (.node (.agg #[.slice (some ⟨258, 0, none⟩) 2 0, .slice (some ⟨259, 0, none⟩) 2 0, .slice (some ⟨262, 0, none⟩) 2 0]) .leaf .leaf)
noncomputable def tzx87 : Tr := (.node (.int .i64 0) (.node (.slice (some ⟨216, 0, none⟩) 4 0) .leaf .leaf) (.node (.string ⟨#[111, 112, 101, 110]⟩) .leaf .leaf))
noncomputable def tzx88 : Tr := (.node (.slice (some ⟨203, 0, none⟩) 4 0) (.node (.slice (some ⟨224, 0, none⟩) 4 0) .leaf .leaf) (.node (.bool false) .leaf .leaf))
noncomputable def tzx89 : Tr := (.node (.slice (some ⟨128, 0, none⟩) 4 0) (.node (.slice (some ⟨119, 0, none⟩) 4 0) .leaf .leaf) (.node (.int .i64 0) .leaf .leaf))
noncomputable def tzx90 : Tr := (.node (.tuple #[.slice (some ⟨94, 0, none⟩) 4 0, .int .i64 0]) (.node (.bool false) .leaf .leaf) (.node (.int .i64 0) .leaf .leaf))
noncomputable def tzx91 : Tr := (.node (.int .i64 0) tzx10 (.node (.bool false) .leaf .leaf))
noncomputable def tzx92 : Tr := (.node (.bool false) tzx11 (.node (.bool false) .leaf .leaf))
noncomputable def tzx93 : Tr := (.node (.tuple #[.slice (some ⟨119, 0, none⟩) 4 0, .int .i64 0]) (.node (.bool true) .leaf .leaf) (.node (.int .i64 0) .leaf .leaf))
noncomputable def tzx94 : Tr := (.node (.slice (some ⟨202, 0, none⟩) 4 0) (.node (.slice (some ⟨202, 0, none⟩) 4 0) .leaf .leaf) (.node (.int .i64 24) .leaf .leaf))
noncomputable def tzx95 : Tr := (.node (.slice (some ⟨94, 0, none⟩) 4 0) (.node (.bool false) .leaf .leaf) (.node (.tuple #[.int .i64 6, .int .i64 0]) .leaf .leaf))
noncomputable def tzx96 : Tr := (.node (.tuple #[.slice (some ⟨202, 0, none⟩) 4 0, .int .i64 0]) (.node (.bool false) .leaf .leaf) (.node (.bool false) .leaf .leaf))
noncomputable def tzx97 : Tr := (.node (.tuple #[.slice (some ⟨162, 0, none⟩) 4 0, .int .i64 0]) (.node (.bool false) .leaf .leaf) (.node (.int .i64 0) .leaf .leaf))
noncomputable def tzx98 : Tr := (.node (.tuple #[.slice (some ⟨202, 0, none⟩) 4 0, .int .i64 0]) (.node (.bool false) .leaf .leaf) (.node (.int .i64 0) .leaf .leaf))
noncomputable def tzx99 : Tr := (.node (.bool false) tzx15 (.node (.bool false) .leaf .leaf))
noncomputable def tzx100 : Tr := (.node (.slice (some ⟨15, 0, none⟩) 4 0) tzx2 (.node (.bool false) .leaf .leaf))
noncomputable def tzx101 : Tr := (.node (.agg #[.int .i64 6, .int .i64 11]) (.node (.int .i64 0) (.node (.bool true) .leaf .leaf) .leaf) (.node (.bool false) .leaf .leaf))
noncomputable def tzx102 : Tr := (.node (.tuple #[.slice none 0 0, .int .i64 24]) (.node (.slice (some ⟨162, 0, none⟩) 4 0) .leaf .leaf) (.node (.int .i64 0) .leaf .leaf))
noncomputable def tzx103 : Tr := (.node (.int .i64 0) tzx0 (.node (.agg #[.int .i64 6, .int .i64 11]) .leaf .leaf))
noncomputable def tzx104 : Tr := (.node (.bool false) tzx5 (.node (.slice (some ⟨291, 0, none⟩) 2 0) .leaf .leaf))
noncomputable def tzx105 : Tr := (.node (.int .i64 0) tzx10 (.node (.string ⟨#[107, 101, 112, 116]⟩) .leaf .leaf))
noncomputable def tzx106 : Tr := (.node (.bool false) tzx11 (.node (.slice (some ⟨248, 0, none⟩) 3 0) .leaf .leaf))
noncomputable def tzx107 : Tr := (.node (.tuple #[.slice (some ⟨162, 0, none⟩) 4 0, .int .i64 0]) (.node (.slice (some ⟨207, 0, none⟩) 4 0) .leaf .leaf) (.node (.int .i64 0) .leaf .leaf))
noncomputable def tzx108 : Tr := (.node (.bool false) (.node (.slice (some ⟨248, 0, none⟩) 3 0) .leaf .leaf) tzx16)
noncomputable def tzx109 : Tr := (.node (.slice (some ⟨94, 0, none⟩) 4 0) tzx4 (.node (.tuple #[.int .i64 6, .int .i64 0]) .leaf .leaf))
noncomputable def tzx110 : Tr := (.node (.slice (some ⟨6, 0, none⟩) 4 0) tzx32 (.node (.bool false) .leaf .leaf))
noncomputable def tzx111 : Tr := (.node (.bool false) tzx32 (.node (.slice (some ⟨283, 0, none⟩) 2 0) .leaf .leaf))
noncomputable def tzx112 : Tr := (.node (.tuple #[.slice (some ⟨119, 0, none⟩) 4 0, .int .i64 0]) (.node (.slice (some ⟨94, 0, none⟩) 4 0) .leaf .leaf) (.node (.tuple #[.int .i64 6, .int .i64 0]) .leaf .leaf))
noncomputable def tzx113 : Tr := (.node (.agg #[.int .i64 6, .int .i64 11]) tzx15 (.node (.slice (some ⟨292, 0, none⟩) 3 0) .leaf .leaf))
noncomputable def tzx114 : Tr := (.node (.slice (some ⟨68, 0, none⟩) 3 0) tzx4 tzx14)
noncomputable def tzx115 : Tr := (.node (.tuple #[.slice (some ⟨94, 0, none⟩) 4 0, .int .i64 0]) tzx30 (.node (.int .i64 0) .leaf .leaf))
noncomputable def tzx116 : Tr := (.node (.tuple #[.slice (some ⟨68, 0, none⟩) 3 0, .int .i64 0]) tzx0 (.node (.agg #[.int .i64 6, .int .i64 11]) .leaf .leaf))
noncomputable def tzx117 : Tr := (.node (.int .i64 0) (.node (.bool false) .leaf .leaf) tzx84)
noncomputable def tzx118 : Tr := (.node (.tuple #[.slice (some ⟨94, 0, none⟩) 4 0, .int .i64 0]) (.node (.slice (some ⟨205, 0, none⟩) 3 0) .leaf .leaf) tzx14)
noncomputable def tzx119 : Tr := (.node (.slice (some ⟨72, 0, none⟩) 4 0) tzx53 (.node (.slice (some ⟨283, 0, none⟩) 2 0) .leaf .leaf))
noncomputable def tzx120 : Tr := (.node (.int .i64 0) (.node (.slice (some ⟨68, 0, none⟩) 3 0) .leaf .leaf) tzx86)
noncomputable def tzx121 : Tr := (.node (.slice (some ⟨204, 0, none⟩) 4 0) tzx81 (.node (.bool false) .leaf .leaf))
noncomputable def tzx122 : Tr := (.node (.tuple #[]) tzx36 tzx67)
noncomputable def tzx123 : Tr := (.node (.slice (some ⟨5, 0, none⟩) 4 0) tzx60 tzx33)
noncomputable def tzx124 : Tr := (.node (.int .i64 0) tzx80 tzx39)
noncomputable def tzx125 : Tr := (.node (.int .i64 0) tzx63 tzx58)
noncomputable def tzx126 : Tr := (.node (.tuple #[.slice (some ⟨15, 0, none⟩) 4 0, .int .i64 0]) tzx38 tzx33)
noncomputable def tzx127 : Tr := (.node (.tuple #[.slice (some ⟨94, 0, none⟩) 4 0, .int .i64 0]) tzx47 tzx14)
noncomputable def tzx128 : Tr := (.node (.agg #[.int .i64 6, .int .i64 11]) tzx83 tzx16)
noncomputable def tzx129 : Tr := (.node (.tuple #[]) tzx82 tzx57)
noncomputable def tzx130 : Tr := (.node (.tuple #[]) tzx64 tzx92)
noncomputable def tzx131 : Tr := (.node (.tuple #[]) tzx97 tzx71)
noncomputable def tzx132 : Tr := (.node (.agg #[.int .i64 6, .int .i64 11]) tzx34 tzx99)
noncomputable def tzx133 : Tr := (.node (.tuple #[.agg #[.int .i64 6, .int .i64 11], .int .i64 0]) tzx65 tzx40)
noncomputable def tzx134 : Tr := (.node (.slice (some ⟨23, 0, none⟩) 4 0) tzx94 tzx41)
noncomputable def tzx135 : Tr := (.node (.tuple #[]) tzx93 tzx75)
noncomputable def tzx136 : Tr := (.node (.int .i64 0) tzx78 tzx86)
noncomputable def tzx137 : Tr := (.node (.tuple #[.slice (some ⟨68, 0, none⟩) 3 0, .int .i64 0]) tzx69 tzx70)
noncomputable def tzx138 : Tr := (.node (.slice (some ⟨6, 0, none⟩) 4 0) tzx74 tzx88)
noncomputable def tzx139 : Tr := (.node (.slice (some ⟨14, 0, none⟩) 4 0) tzx72 tzx104)
noncomputable def tzx140 : Tr := (.node (.tuple #[]) tzx89 tzx106)
noncomputable def tzx141 : Tr := (.node (.slice (some ⟨15, 0, none⟩) 4 0) tzx98 tzx100)
noncomputable def tzx142 : Tr := (.node (.int .i64 0) tzx109 tzx87)
noncomputable def tzx143 : Tr := (.node (.int .i64 0) tzx119 tzx39)
noncomputable def tzx144 : Tr := (.node (.tuple #[.slice (some ⟨6, 0, none⟩) 4 0, .int .i64 0]) tzx36 tzx110)
noncomputable def tzx145 : Tr := (.node (.tuple #[.agg #[.int .i64 6, .int .i64 11], .int .i64 0]) tzx96 tzx73)
noncomputable def tzx146 : Tr := (.node (.tuple #[]) tzx117 tzx66)
noncomputable def tzx147 : Tr := (.node (.int .i64 6) tzx118 tzx57)
noncomputable def tzx148 : Tr := (.node (.slice (some ⟨27, 0, none⟩) 4 0) tzx91 tzx108)
noncomputable def tzx149 : Tr := (.node (.tuple #[]) tzx112 tzx91)
noncomputable def tzx150 : Tr := (.node (.slice (some ⟨283, 0, none⟩) 2 0) tzx114 tzx62)
noncomputable def tzx151 : Tr := (.node (.int .i64 0) tzx68 tzx121)
noncomputable def tzx152 : Tr := (.node (.tuple #[.slice (some ⟨6, 0, none⟩) 4 0, .int .i64 0]) tzx107 tzx85)
noncomputable def tzx153 : Tr := (.node (.tuple #[.slice (some ⟨68, 0, none⟩) 3 0, .int .i64 0]) tzx59 tzx113)
noncomputable def tzx154 : Tr := (.node (.slice (some ⟨315, 0, none⟩) 2 0) tzx115 tzx91)
noncomputable def tzx155 : Tr := (.node (.int .i64 0) tzx37 tzx128)
noncomputable def tzx156 : Tr := (.node (.tuple #[.slice (some ⟨15, 0, none⟩) 4 0, .int .i64 0]) tzx102 tzx111)
noncomputable def tzx157 : Tr := (.node (.int .i64 6) tzx127 tzx57)
noncomputable def tzx158 : Tr := (.node (.int .i64 0) tzx120 tzx105)
noncomputable def tzx159 : Tr := (.node (.int .i64 0) tzx136 tzx105)
noncomputable def tzx160 : Tr := (.node (.int .i64 0) tzx122 tzx132)
noncomputable def tzx161 : Tr := (.node (.int .i64 0) tzx123 tzx137)
noncomputable def tzx162 : Tr := (.node (.int .i64 0) tzx135 tzx134)
noncomputable def tzx163 : Tr := (.node (.int .i64 0) tzx142 tzx126)
noncomputable def tzx164 : Tr := (.node (.string ⟨#[109, 105, 115, 115, 101, 100]⟩) tzx130 tzx133)
noncomputable def tzx165 : Tr := (.node (.slice (some ⟨202, 0, none⟩) 4 0) tzx147 tzx125)
noncomputable def tzx166 : Tr := (.node (.string ⟨#[111, 112, 101, 110]⟩) tzx129 tzx145)
noncomputable def tzx167 : Tr := (.node (.int .i64 0) tzx124 tzx156)
noncomputable def tzx168 : Tr := (.node (.slice none 0 0) tzx131 tzx155)
noncomputable def tzx169 : Tr := (.node (.slice (some ⟨202, 0, none⟩) 4 0) tzx157 tzx125)
noncomputable def tzx170 : Tr := (.node (.string ⟨#[107, 101, 112, 116]⟩) tzx146 tzx141)
noncomputable def tzx171 : Tr := (.node (.slice none 0 0) tzx150 tzx144)
noncomputable def tzx172 : Tr := (.node (.int .i64 24) tzx140 tzx153)
noncomputable def tzx173 : Tr := (.node (.int .i64 0) tzx149 tzx151)
noncomputable def tzx174 : Tr := (.node (.int .i64 24) tzx158 tzx138)
noncomputable def tzx175 : Tr := (.node (.string ⟨#[107, 101, 112, 116]⟩) tzx154 tzx139)
noncomputable def tzx176 : Tr := (.node (.int .i64 0) tzx143 tzx156)
noncomputable def tzx177 : Tr := (.node (.slice (some ⟨248, 0, none⟩) 3 0) tzx152 tzx148)
noncomputable def tzx178 : Tr := (.node (.int .i64 24) tzx159 tzx138)
noncomputable def tzx179 : Tr := (.node (.int .i64 0) tzx167 tzx160)
noncomputable def tzx180 : Tr := (.node (.int .i64 0) tzx176 tzx160)
noncomputable def tzx181 : Tr := (.node (.slice (some ⟨94, 0, none⟩) 4 0) tzx165 tzx164)
noncomputable def tzx182 : Tr := (.node (.int .i64 0) tzx174 tzx162)
noncomputable def tzx183 : Tr := (.node (.int .i64 0) tzx163 tzx172)
noncomputable def tzx184 : Tr := (.node (.slice (some ⟨68, 0, none⟩) 3 0) tzx171 tzx166)
noncomputable def tzx185 : Tr := (.node (.slice (some ⟨119, 0, none⟩) 4 0) tzx175 tzx168)
noncomputable def tzK4 : List Nat := [24, 15, 6]
noncomputable def tzT4 : Tr := (.node (.bool false) (.node (.slice (some ⟨6, 0, none⟩) 4 0) (.node (.slice (some ⟨15, 0, none⟩) 4 0) (.node (.tuple #[]) (.node (.tuple #[]) .leaf tzx6) tzx54) (.node (.tuple #[]) (.node (.tuple #[]) .leaf (.node (.slice (some ⟨14, 0, none⟩) 4 0) .leaf .leaf)) (.node (.tuple #[]) .leaf (.node (.int .i64 0) .leaf .leaf)))) (.node (.pointer (some ⟨24, 0, none⟩)) (.node (.tuple #[]) (.node (.tuple #[]) .leaf (.node (.int .i64 0) .leaf .leaf)) tzx54) (.node (.tuple #[]) (.node (.tuple #[]) .leaf (.node (.slice (some ⟨15, 0, none⟩) 4 0) .leaf .leaf)) (.node (.tuple #[]) tzx6 .leaf)))) (.node (.int .i64 0) (.node (.int .i64 0) (.node (.tuple #[]) (.node (.tuple #[]) .leaf (.node (.slice (some ⟨6, 0, none⟩) 4 0) .leaf .leaf)) (.node (.tuple #[]) .leaf (.node (.slice (some ⟨23, 0, none⟩) 4 0) .leaf .leaf))) (.node (.tuple #[]) tzx43 .leaf)) (.node (.int .i64 0) (.node (.tuple #[]) tzx43 (.node (.tuple #[]) .leaf (.node (.agg #[.int .i64 6, .int .i64 11]) .leaf .leaf))) (.node (.tuple #[]) (.node (.tuple #[]) .leaf (.node (.int .i64 0) .leaf .leaf)) (.node (.tuple #[]) (.node (.slice (some ⟨5, 0, none⟩) 4 0) .leaf .leaf) .leaf)))))
noncomputable def tzF4 : Fr := ⟨tzT4, 318, []⟩
noncomputable def tzO4_0 : List (Nat × AObj) := [(24, .row 32 [.int .i64 6, .int .i64 11] true false), (15, .row 3 [.int .i64 0, .int .i64 0, .int .i64 6, .int .i64 9] true false), (6, .row 3 [.int .i64 0, .int .i64 0, .int .i64 2, .int .i64 5] true false), (1, .row 162 [.string ⟨#[107, 101, 112, 116]⟩, .func (.func 237) #[] #[], .string ⟨#[109, 105, 115, 115, 101, 100]⟩, .func (.func 238) #[] #[], .string ⟨#[111, 112, 101, 110]⟩, .func (.func 239) #[] #[]] false true), (2, .row 111 [.int .i64 (-1), .int .i64 0] false true)]
noncomputable def tzL4 : List (Nat × AObj) := tzO4_0
noncomputable def tzH4 : Heap := ⟨25, 3, tzL4⟩
noncomputable def tzK8 : List Nat := [162, 119, 94, 68, 24, 15, 6]
noncomputable def tzT8 : Tr := (.node (.bool false) (.node (.slice (some ⟨6, 0, none⟩) 4 0) (.node (.slice (some ⟨15, 0, none⟩) 4 0) (.node (.slice (some ⟨68, 0, none⟩) 3 0) (.node (.tuple #[]) (.node (.tuple #[]) (.node (.slice (some ⟨68, 0, none⟩) 3 0) .leaf .leaf) .leaf) (.node (.tuple #[.slice (some ⟨6, 0, none⟩) 4 0, .int .i64 0]) (.node (.int .i64 0) .leaf .leaf) .leaf)) (.node (.tuple #[]) (.node (.tuple #[]) (.node (.slice (some ⟨97, 0, none⟩) 4 0) .leaf .leaf) .leaf) tzx19)) (.node (.slice (some ⟨119, 0, none⟩) 4 0) (.node (.tuple #[]) tzx44 (.node (.slice (some ⟨14, 0, none⟩) 4 0) .leaf .leaf)) (.node (.tuple #[]) (.node (.tuple #[]) tzx12 .leaf) (.node (.int .i64 0) .leaf .leaf)))) (.node (.pointer (some ⟨24, 0, none⟩)) (.node (.slice (some ⟨94, 0, none⟩) 4 0) (.node (.tuple #[]) tzx44 (.node (.int .i64 0) .leaf .leaf)) (.node (.tuple #[]) (.node (.tuple #[]) (.node (.slice (some ⟨119, 0, none⟩) 4 0) .leaf .leaf) .leaf) tzx19)) (.node (.slice (some ⟨162, 0, none⟩) 4 0) (.node (.tuple #[]) (.node (.tuple #[]) (.node (.int .i64 0) .leaf .leaf) .leaf) (.node (.slice (some ⟨15, 0, none⟩) 4 0) .leaf .leaf)) (.node (.tuple #[]) (.node (.tuple #[.slice (some ⟨6, 0, none⟩) 4 0, .int .i64 0]) tzx12 .leaf) (.node (.slice (some ⟨27, 0, none⟩) 4 0) .leaf .leaf))))) (.node (.int .i64 0) (.node (.int .i64 0) (.node (.int .i64 0) (.node (.tuple #[]) (.node (.tuple #[]) (.node (.int .i64 0) .leaf .leaf) .leaf) (.node (.slice (some ⟨6, 0, none⟩) 4 0) .leaf .leaf)) (.node (.tuple #[]) tzx48 (.node (.slice (some ⟨23, 0, none⟩) 4 0) .leaf .leaf))) (.node (.int .i64 0) (.node (.tuple #[]) (.node (.tuple #[]) (.node (.slice (some ⟨94, 0, none⟩) 4 0) .leaf .leaf) .leaf) tzx7) (.node (.tuple #[]) (.node (.tuple #[]) (.node (.slice (some ⟨128, 0, none⟩) 4 0) .leaf .leaf) .leaf) tzx9))) (.node (.int .i64 0) (.node (.int .i64 0) (.node (.tuple #[]) (.node (.tuple #[]) (.node (.slice (some ⟨72, 0, none⟩) 4 0) .leaf .leaf) .leaf) tzx7) (.node (.tuple #[]) (.node (.tuple #[]) (.node (.int .i64 0) .leaf .leaf) .leaf) (.node (.agg #[.int .i64 6, .int .i64 11]) .leaf .leaf))) (.node (.int .i64 0) (.node (.tuple #[]) tzx48 (.node (.int .i64 0) .leaf .leaf)) (.node (.tuple #[]) (.node (.slice (some ⟨5, 0, none⟩) 4 0) (.node (.slice (some ⟨162, 0, none⟩) 4 0) .leaf .leaf) .leaf) tzx9)))))
noncomputable def tzF8 : Fr := ⟨tzT8, 318, []⟩
noncomputable def tzO8_0 : List (Nat × AObj) := [(162, .row 3 [.int .i64 8, .int .i64 8, .int .i64 11, .int .i64 12] true true), (119, .row 3 [.int .i64 3, .int .i64 1, .int .i64 1, .int .i64 1] true true), (94, .row 3 [.int .i64 3, .int .i64 1, .int .i64 7, .int .i64 10] true true), (68, .row 3 [.int .i64 1, .int .i64 2, .int .i64 3] true true)]
noncomputable def tzL8 : List (Nat × AObj) := tzO8_0 ++ tzL4
noncomputable def tzH8 : Heap := ⟨163, 3, tzL8⟩
noncomputable def tzK11 : List Nat := []
noncomputable def tzT11 : Tr := (.node (.bool false) (.node (.slice (some ⟨6, 0, none⟩) 4 0) (.node (.slice (some ⟨15, 0, none⟩) 4 0) (.node (.slice (some ⟨68, 0, none⟩) 3 0) (.node (.slice none 0 0) (.node (.tuple #[]) tzx21 (.node (.int .i64 0) .leaf .leaf)) (.node (.tuple #[.slice (some ⟨6, 0, none⟩) 4 0, .int .i64 0]) tzx0 (.node (.slice (some ⟨6, 0, none⟩) 4 0) .leaf .leaf))) (.node (.tuple #[]) (.node (.tuple #[]) tzx42 (.node (.int .i64 0) .leaf .leaf)) (.node (.tuple #[.agg #[.int .i64 6, .int .i64 11], .int .i64 0]) tzx55 (.node (.bool true) .leaf .leaf)))) (.node (.slice (some ⟨119, 0, none⟩) 4 0) (.node (.tuple #[]) (.node (.tuple #[]) tzx49 (.node (.int .i64 0) .leaf .leaf)) (.node (.slice (some ⟨14, 0, none⟩) 4 0) tzx31 (.node (.bool false) .leaf .leaf))) (.node (.tuple #[]) (.node (.tuple #[]) tzx56 (.node (.int .i64 24) .leaf .leaf)) tzx103))) (.node (.pointer (some ⟨24, 0, none⟩)) (.node (.slice (some ⟨94, 0, none⟩) 4 0) (.node (.slice (some ⟨202, 0, none⟩) 4 0) (.node (.tuple #[]) tzx76 (.node (.int .i64 0) .leaf .leaf)) (.node (.int .i64 0) tzx26 (.node (.bool true) .leaf .leaf))) (.node (.tuple #[]) (.node (.tuple #[]) tzx27 (.node (.bool false) .leaf .leaf)) (.node (.tuple #[.agg #[.int .i64 6, .int .i64 11], .int .i64 0]) tzx28 (.node (.bool false) .leaf .leaf)))) (.node (.slice (some ⟨162, 0, none⟩) 4 0) (.node (.tuple #[]) (.node (.tuple #[]) tzx0 (.node (.int .i64 0) .leaf .leaf)) (.node (.slice (some ⟨15, 0, none⟩) 4 0) tzx55 (.node (.slice (some ⟨15, 0, none⟩) 4 0) .leaf .leaf))) (.node (.tuple #[]) (.node (.tuple #[.slice (some ⟨6, 0, none⟩) 4 0, .int .i64 0]) tzx79 (.node (.bool false) .leaf .leaf)) (.node (.slice (some ⟨27, 0, none⟩) 4 0) (.node (.int .i64 0) .leaf .leaf) (.node (.bool false) .leaf .leaf)))))) (.node (.int .i64 0) (.node (.int .i64 0) (.node (.int .i64 0) (.node (.int .i64 24) (.node (.tuple #[]) tzx22 (.node (.int .i64 0) .leaf .leaf)) (.node (.slice (some ⟨6, 0, none⟩) 4 0) tzx35 (.node (.slice (some ⟨203, 0, none⟩) 4 0) .leaf .leaf))) (.node (.tuple #[]) (.node (.tuple #[]) tzx50 (.node (.int .i64 0) .leaf .leaf)) (.node (.slice (some ⟨23, 0, none⟩) 4 0) tzx45 (.node (.bool false) .leaf .leaf)))) (.node (.int .i64 0) (.node (.tuple #[]) (.node (.tuple #[]) tzx23 (.node (.int .i64 0) .leaf .leaf)) (.node (.tuple #[.slice (some ⟨15, 0, none⟩) 4 0, .int .i64 0]) tzx1 (.node (.bool false) .leaf .leaf))) (.node (.tuple #[]) (.node (.tuple #[]) tzx46 (.node (.bool false) .leaf .leaf)) tzx116))) (.node (.int .i64 0) (.node (.int .i64 0) (.node (.int .i64 0) (.node (.tuple #[]) tzx20 (.node (.int .i64 0) .leaf .leaf)) (.node (.tuple #[.slice (some ⟨15, 0, none⟩) 4 0, .int .i64 0]) tzx61 (.node (.bool false) .leaf .leaf))) (.node (.tuple #[]) (.node (.tuple #[]) tzx0 (.node (.bool false) .leaf .leaf)) tzx101)) (.node (.int .i64 0) (.node (.tuple #[]) (.node (.tuple #[]) tzx77 (.node (.int .i64 0) .leaf .leaf)) (.node (.int .i64 0) tzx29 (.node (.slice (some ⟨204, 0, none⟩) 4 0) .leaf .leaf))) (.node (.tuple #[]) (.node (.slice (some ⟨5, 0, none⟩) 4 0) tzx24 (.node (.bool false) .leaf .leaf)) (.node (.tuple #[.slice (some ⟨68, 0, none⟩) 3 0, .int .i64 0]) (.node (.int .i64 0) .leaf .leaf) (.node (.bool false) .leaf .leaf)))))))
noncomputable def tzF11 : Fr := ⟨tzT11, 318, []⟩
noncomputable def tzO11_0 : List (Nat × AObj) := [(1, .row 162 [.string ⟨#[107, 101, 112, 116]⟩, .func (.func 237) #[] #[], .string ⟨#[109, 105, 115, 115, 101, 100]⟩, .func (.func 238) #[] #[], .string ⟨#[111, 112, 101, 110]⟩, .func (.func 239) #[] #[]] false true), (2, .row 111 [.int .i64 (-1), .int .i64 0] false true)]
noncomputable def tzL11 : List (Nat × AObj) := tzO11_0
noncomputable def tzH11 : Heap := ⟨210, 3, tzL11⟩
noncomputable def tzK16 : List Nat := []
noncomputable def tzT16 : Tr := (.node (.bool false) (.node (.slice (some ⟨6, 0, none⟩) 4 0) (.node (.slice (some ⟨15, 0, none⟩) 4 0) (.node (.slice (some ⟨68, 0, none⟩) 3 0) (.node (.slice none 0 0) (.node (.tuple #[]) tzx21 (.node (.int .i64 0) (.node (.slice (some ⟨213, 0, none⟩) 4 0) .leaf .leaf) .leaf)) (.node (.tuple #[.slice (some ⟨6, 0, none⟩) 4 0, .int .i64 0]) tzx0 (.node (.slice (some ⟨6, 0, none⟩) 4 0) tzx32 .leaf))) (.node (.string ⟨#[111, 112, 101, 110]⟩) (.node (.tuple #[]) tzx42 tzx25) (.node (.tuple #[.agg #[.int .i64 6, .int .i64 11], .int .i64 0]) tzx55 (.node (.bool true) tzx2 .leaf)))) (.node (.slice (some ⟨119, 0, none⟩) 4 0) (.node (.string ⟨#[107, 101, 112, 116]⟩) (.node (.tuple #[]) tzx49 tzx51) (.node (.slice (some ⟨14, 0, none⟩) 4 0) tzx31 (.node (.bool false) tzx5 .leaf))) (.node (.slice none 0 0) (.node (.tuple #[]) tzx56 (.node (.int .i64 24) (.node (.slice (some ⟨221, 0, none⟩) 4 0) .leaf .leaf) .leaf)) tzx103))) (.node (.pointer (some ⟨24, 0, none⟩)) (.node (.slice (some ⟨94, 0, none⟩) 4 0) (.node (.slice (some ⟨202, 0, none⟩) 4 0) (.node (.tuple #[]) tzx76 tzx25) (.node (.int .i64 0) tzx26 (.node (.bool true) (.node (.slice (some ⟨225, 0, none⟩) 4 0) .leaf .leaf) .leaf))) (.node (.string ⟨#[109, 105, 115, 115, 101, 100]⟩) (.node (.tuple #[]) tzx27 tzx52) (.node (.tuple #[.agg #[.int .i64 6, .int .i64 11], .int .i64 0]) tzx28 (.node (.bool false) (.node (.int .i64 24) .leaf .leaf) .leaf)))) (.node (.slice (some ⟨162, 0, none⟩) 4 0) (.node (.string ⟨#[107, 101, 112, 116]⟩) (.node (.tuple #[]) tzx0 (.node (.int .i64 0) (.node (.slice (some ⟨217, 0, none⟩) 4 0) .leaf .leaf) .leaf)) (.node (.slice (some ⟨15, 0, none⟩) 4 0) tzx55 (.node (.slice (some ⟨15, 0, none⟩) 4 0) tzx2 .leaf))) (.node (.tuple #[]) (.node (.tuple #[.slice (some ⟨6, 0, none⟩) 4 0, .int .i64 0]) tzx79 (.node (.bool false) (.node (.string ⟨#[111, 112, 101, 110]⟩) .leaf .leaf) .leaf)) (.node (.slice (some ⟨27, 0, none⟩) 4 0) tzx51 (.node (.bool false) .leaf .leaf)))))) (.node (.int .i64 0) (.node (.int .i64 0) (.node (.int .i64 0) (.node (.int .i64 24) (.node (.tuple #[]) tzx22 tzx51) (.node (.slice (some ⟨6, 0, none⟩) 4 0) tzx35 (.node (.slice (some ⟨203, 0, none⟩) 4 0) (.node (.slice (some ⟨224, 0, none⟩) 4 0) .leaf .leaf) .leaf))) (.node (.int .i64 0) (.node (.tuple #[]) tzx50 tzx3) (.node (.slice (some ⟨23, 0, none⟩) 4 0) tzx45 (.node (.bool false) (.node (.slice none 0 0) .leaf .leaf) .leaf)))) (.node (.int .i64 0) (.node (.int .i64 0) (.node (.tuple #[]) tzx23 (.node (.int .i64 0) (.node (.slice (some ⟨216, 0, none⟩) 4 0) .leaf .leaf) .leaf)) (.node (.tuple #[.slice (some ⟨15, 0, none⟩) 4 0, .int .i64 0]) tzx1 tzx4)) (.node (.int .i64 24) (.node (.tuple #[]) tzx46 tzx52) tzx116))) (.node (.int .i64 0) (.node (.int .i64 0) (.node (.int .i64 0) (.node (.tuple #[]) tzx20 tzx3) (.node (.tuple #[.slice (some ⟨15, 0, none⟩) 4 0, .int .i64 0]) tzx61 (.node (.bool false) tzx32 .leaf))) (.node (.int .i64 0) (.node (.tuple #[]) tzx0 (.node (.bool false) (.node (.slice (some ⟨220, 0, none⟩) 4 0) .leaf .leaf) .leaf)) tzx101)) (.node (.int .i64 0) (.node (.int .i64 0) (.node (.tuple #[]) tzx77 tzx51) (.node (.int .i64 0) tzx29 (.node (.slice (some ⟨204, 0, none⟩) 4 0) tzx81 .leaf))) (.node (.tuple #[]) (.node (.slice (some ⟨5, 0, none⟩) 4 0) tzx24 tzx4) (.node (.tuple #[.slice (some ⟨68, 0, none⟩) 3 0, .int .i64 0]) (.node (.int .i64 0) (.node (.slice (some ⟨212, 0, none⟩) 4 0) .leaf .leaf) .leaf) (.node (.bool false) .leaf .leaf)))))))
noncomputable def tzF16 : Fr := ⟨tzT16, 318, []⟩
noncomputable def tzL16 : List (Nat × AObj) := tzL11
noncomputable def tzH16 : Heap := ⟨232, 3, tzL16⟩
noncomputable def tzK20 : List Nat := []
noncomputable def tzT20 : Tr := (.node (.bool false) (.node (.slice (some ⟨6, 0, none⟩) 4 0) (.node (.slice (some ⟨15, 0, none⟩) 4 0) (.node (.slice (some ⟨68, 0, none⟩) 3 0) (.node (.slice none 0 0) (.node (.slice (some ⟨283, 0, none⟩) 2 0) (.node (.slice (some ⟨68, 0, none⟩) 3 0) (.node (.bool false) .leaf .leaf) tzx14) tzx62) tzx144) tzx166) (.node (.slice (some ⟨119, 0, none⟩) 4 0) (.node (.string ⟨#[107, 101, 112, 116]⟩) (.node (.tuple #[]) tzx90 tzx91) tzx139) (.node (.slice none 0 0) tzx131 (.node (.int .i64 0) tzx37 (.node (.agg #[.int .i64 6, .int .i64 11]) tzx83 .leaf))))) (.node (.pointer (some ⟨24, 0, none⟩)) tzx181 (.node (.slice (some ⟨162, 0, none⟩) 4 0) tzx170 (.node (.slice (some ⟨248, 0, none⟩) 3 0) tzx152 (.node (.slice (some ⟨27, 0, none⟩) 4 0) tzx91 (.node (.bool false) (.node (.slice (some ⟨248, 0, none⟩) 3 0) .leaf .leaf) .leaf)))))) (.node (.int .i64 0) (.node (.int .i64 0) tzx182 (.node (.int .i64 0) (.node (.int .i64 0) (.node (.tuple #[]) tzx95 tzx87) tzx126) (.node (.int .i64 24) tzx140 (.node (.tuple #[.slice (some ⟨68, 0, none⟩) 3 0, .int .i64 0]) tzx59 (.node (.agg #[.int .i64 6, .int .i64 11]) tzx15 .leaf))))) (.node (.int .i64 0) tzx179 (.node (.int .i64 0) tzx173 (.node (.int .i64 0) tzx123 (.node (.tuple #[.slice (some ⟨68, 0, none⟩) 3 0, .int .i64 0]) tzx69 tzx4))))))
noncomputable def tzF20 : Fr := ⟨tzT20, 318, []⟩
noncomputable def tzL20 : List (Nat × AObj) := tzL16
noncomputable def tzH20 : Heap := ⟨292, 3, tzL20⟩
noncomputable def tzK21 : List Nat := [315]
noncomputable def tzT21 : Tr := (.node (.bool false) (.node (.slice (some ⟨6, 0, none⟩) 4 0) (.node (.slice (some ⟨15, 0, none⟩) 4 0) tzx184 (.node (.slice (some ⟨119, 0, none⟩) 4 0) (.node (.string ⟨#[107, 101, 112, 116]⟩) (.node (.slice (some ⟨315, 0, none⟩) 2 0) tzx90 tzx91) tzx139) tzx168)) (.node (.pointer (some ⟨24, 0, none⟩)) tzx181 (.node (.slice (some ⟨162, 0, none⟩) 4 0) tzx170 tzx177))) (.node (.int .i64 0) (.node (.int .i64 0) tzx182 (.node (.int .i64 0) (.node (.int .i64 0) (.node (.int .i64 0) tzx95 tzx87) tzx126) tzx172)) (.node (.int .i64 0) tzx179 (.node (.int .i64 0) tzx173 tzx161))))
noncomputable def tzF21 : Fr := ⟨tzT21, 318, []⟩
noncomputable def tzO21_0 : List (Nat × AObj) := [(315, .row 111 [.int .i64 0, .int .i64 0, .int .i64 1, .int .i64 5] true true)]
noncomputable def tzL21 : List (Nat × AObj) := tzO21_0 ++ tzL20
noncomputable def tzH21 : Heap := ⟨440, 3, tzL21⟩
noncomputable def tzK22 : List Nat := [590, 315]
noncomputable def tzT22 : Tr := (.node (.bool false) (.node (.slice (some ⟨6, 0, none⟩) 4 0) (.node (.slice (some ⟨15, 0, none⟩) 4 0) tzx184 tzx185) (.node (.pointer (some ⟨24, 0, none⟩)) (.node (.slice (some ⟨94, 0, none⟩) 4 0) tzx169 tzx164) (.node (.slice (some ⟨162, 0, none⟩) 4 0) (.node (.string ⟨#[107, 101, 112, 116]⟩) (.node (.slice (some ⟨590, 0, none⟩) 1 0) tzx117 tzx66) tzx141) tzx177))) (.node (.int .i64 0) (.node (.int .i64 0) (.node (.int .i64 0) tzx178 tzx162) tzx183) (.node (.int .i64 0) tzx180 (.node (.int .i64 0) (.node (.int .i64 0) (.node (.int .i64 0) tzx112 tzx91) tzx151) tzx161))))
noncomputable def tzF22 : Fr := ⟨tzT22, 318, []⟩
noncomputable def tzO22_0 : List (Nat × AObj) := [(590, .row 3 [.int .i64 2] true true)]
noncomputable def tzL22 : List (Nat × AObj) := tzO22_0 ++ tzL21
noncomputable def tzH22 : Heap := ⟨591, 3, tzL22⟩
noncomputable def tzK23 : List Nat := [658, 590, 315]
noncomputable def tzT23 : Tr := (.node (.bool false) (.node (.slice (some ⟨6, 0, none⟩) 4 0) (.node (.slice (some ⟨15, 0, none⟩) 4 0) (.node (.slice (some ⟨68, 0, none⟩) 3 0) tzx171 (.node (.string ⟨#[111, 112, 101, 110]⟩) (.node (.slice (some ⟨658, 0, none⟩) 3 0) (.node (.slice (some ⟨97, 0, none⟩) 4 0) (.node (.slice (some ⟨206, 0, none⟩) 4 0) tzx18 .leaf) (.node (.int .i64 6) .leaf .leaf)) tzx57) tzx145)) tzx185) (.node (.pointer (some ⟨24, 0, none⟩)) (.node (.slice (some ⟨94, 0, none⟩) 4 0) tzx169 (.node (.string ⟨#[109, 105, 115, 115, 101, 100]⟩) (.node (.tuple #[]) (.node (.slice (some ⟨119, 0, none⟩) 4 0) tzx4 (.node (.int .i64 0) .leaf .leaf)) tzx92) tzx133)) (.node (.slice (some ⟨162, 0, none⟩) 4 0) (.node (.string ⟨#[107, 101, 112, 116]⟩) (.node (.slice (some ⟨590, 0, none⟩) 1 0) (.node (.int .i64 0) (.node (.bool false) tzx18 .leaf) tzx84) tzx66) tzx141) tzx177))) (.node (.int .i64 0) (.node (.int .i64 0) (.node (.int .i64 0) tzx178 (.node (.int .i64 0) (.node (.int .i64 0) (.node (.tuple #[.slice (some ⟨119, 0, none⟩) 4 0, .int .i64 0]) (.node (.bool true) (.node (.slice (some ⟨658, 0, none⟩) 3 0) .leaf .leaf) .leaf) (.node (.int .i64 0) .leaf .leaf)) tzx75) tzx134)) tzx183) (.node (.int .i64 0) tzx180 (.node (.int .i64 0) (.node (.int .i64 0) (.node (.int .i64 0) (.node (.tuple #[.slice (some ⟨119, 0, none⟩) 4 0, .int .i64 0]) (.node (.slice (some ⟨94, 0, none⟩) 4 0) (.node (.slice (some ⟨591, 0, none⟩) 3 0) .leaf .leaf) .leaf) (.node (.tuple #[.int .i64 6, .int .i64 0]) .leaf .leaf)) tzx91) tzx151) tzx161))))
noncomputable def tzF23 : Fr := ⟨tzT23, 318, []⟩
noncomputable def tzO23_0 : List (Nat × AObj) := [(658, .row 111 [.int .i64 0, .int .i64 0, .int .i64 2, .int .i64 4, .int .i64 1, .int .i64 8] true true)]
noncomputable def tzL23 : List (Nat × AObj) := tzO23_0 ++ tzL22
noncomputable def tzH23 : Heap := ⟨829, 3, tzL23⟩
end Go.Proofs
namespace Go.Proofs
open Go.Fs
theorem tzP4 : (runPre Tryz.prog OB 4 100000 (tzC) ⟨fillTr .leaf 0 [], Tryz.f14.ntmps, []⟩ (gHeap 3 tzG)).map (fun x => (x.1, x.2.1, x.2.2.1, gcH 3 tzK4 x.2.2.2)) = some (99996, sufx 4 tzC, tzF4, tzH4) := by kernel_rfl
end Go.Proofs
namespace Go.Proofs
open Go.Fs
theorem tzP8 : (runPre Tryz.prog OB 4 99996 (sufx 4 tzC) tzF4 tzH4).map (fun x => (x.1, x.2.1, x.2.2.1, gcH 3 tzK8 x.2.2.2)) = some (99992, sufx 8 tzC, tzF8, tzH8) := by kernel_rfl
end Go.Proofs
namespace Go.Proofs
open Go.Fs
theorem tzP11 : (runPre Tryz.prog OB 3 99992 (sufx 8 tzC) tzF8 tzH8).map (fun x => (x.1, x.2.1, x.2.2.1, gcH 3 tzK11 x.2.2.2)) = some (99989, sufx 11 tzC, tzF11, tzH11) := by kernel_rfl
end Go.Proofs
namespace Go.Proofs
open Go.Fs
theorem tzP16 : (runPre Tryz.prog OB 5 99989 (sufx 11 tzC) tzF11 tzH11).map (fun x => (x.1, x.2.1, x.2.2.1, gcH 3 tzK16 x.2.2.2)) = some (99984, sufx 16 tzC, tzF16, tzH16) := by kernel_rfl
end Go.Proofs
namespace Go.Proofs
open Go.Fs
theorem tzP20 : (runPre Tryz.prog OB 4 99984 (sufx 16 tzC) tzF16 tzH16).map (fun x => (x.1, x.2.1, x.2.2.1, gcH 3 tzK20 x.2.2.2)) = some (99980, sufx 20 tzC, tzF20, tzH20) := by kernel_rfl
end Go.Proofs
namespace Go.Proofs
open Go.Fs
theorem tzP21 : (runPre Tryz.prog OB 1 99980 (sufx 20 tzC) tzF20 tzH20).map (fun x => (x.1, x.2.1, x.2.2.1, gcH 3 tzK21 x.2.2.2)) = some (99979, sufx 21 tzC, tzF21, tzH21) := by kernel_rfl
end Go.Proofs
namespace Go.Proofs
open Go.Fs
theorem tzP22 : (runPre Tryz.prog OB 1 99979 (sufx 21 tzC) tzF21 tzH21).map (fun x => (x.1, x.2.1, x.2.2.1, gcH 3 tzK22 x.2.2.2)) = some (99978, sufx 22 tzC, tzF22, tzH22) := by kernel_rfl
end Go.Proofs
namespace Go.Proofs
open Go.Fs
theorem tzP23 : (runPre Tryz.prog OB 1 99978 (sufx 22 tzC) tzF22 tzH22).map (fun x => (x.1, x.2.1, x.2.2.1, gcH 3 tzK23 x.2.2.2)) = some (99977, sufx 23 tzC, tzF23, tzH23) := by kernel_rfl
end Go.Proofs
namespace Go.Proofs
open Go.Fs
theorem tzPe : (fsCodeX Tryz.prog OB 99977 none (sufx 23 tzC) tzF23 tzH23).bind (endV Tryz.prog Tryz.f14 (gHeap 3 tzG)) = some (.bool true) := by kernel_rfl
end Go.Proofs
namespace Go.Proofs
open Go.Fs
noncomputable def tzKs : List (Nat × List Nat) := [(4, tzK4), (4, tzK8), (3, tzK11), (5, tzK16), (4, tzK20), (1, tzK21), (1, tzK22), (1, tzK23)]
theorem tzRun : (fsEnter Tryz.prog (fsG Tryz.prog OB 3 100000 tzKs) 14 [] (gHeap 3 tzG)).map (·.1) = some (.bool true) := by
  rw [enter_map (c := tzC) Tryz.func14 rfl (by rfl)]; rw [fsG_eq (by kernel_rfl) (by kernel_rfl)]; unfold tzKs; show (runG Tryz.prog OB 3 _ 100000 tzC ⟨fillTr .leaf 0 [], Tryz.f14.ntmps, []⟩ (gHeap 3 tzG)).bind _ = _; rw [run_viaG tzP4]; rw [run_viaG tzP8]; rw [run_viaG tzP11]; rw [run_viaG tzP16]; rw [run_viaG tzP20]; rw [run_viaG tzP21]; rw [run_viaG tzP22]; rw [run_viaG tzP23]; exact tzPe
end Go.Proofs
namespace Go.Proofs.YtjmkmalgfanifaaGreatDoor
open Go.ChangeShapes Go.RowKit Go.Fs
def laid5 : List (String × DataW Unit) := [("math/bits.deBruijn32tab", Rows.laid_math_bits_deBruijn32tab), ("math/bits.deBruijn64tab", Rows.laid_math_bits_deBruijn64tab), ("internal/strconv.uint64pow10", Rows.laid_internal_strconv_uint64pow10), ("tideway/closing.nobody", Rows.laid_tideway_closing_nobody), ("tideway/closing.verdicts", Rows.laid_tideway_closing_verdicts)]
def laid4 : List (String × DataW Unit) := [("math/bits.deBruijn32tab", Rows.laid_math_bits_deBruijn32tab), ("math/bits.deBruijn64tab", Rows.laid_math_bits_deBruijn64tab), ("internal/strconv.uint64pow10", Rows.laid_internal_strconv_uint64pow10), ("tideway/closing.nobody", Rows.laid_tideway_closing_nobody)]
theorem laid4_eq : laid5.filter (fun x => x.2.handleName?.isNone) = laid4 := by rfl
theorem laid_plain {W : World} (h : laidMetH Tryz.prog laid5 W) : laidMet Tryz.prog laid4 W := by
  have := (laidMetH_iff.1 h).1
  rwa [laid4_eq] at this
theorem gPow : ∃ g : Nat, Tryz.prog.globalNamed "internal/strconv.uint64pow10" = some g ∧ (Tryz.prog.globals[g]?).map (·.type) = some 252 := ⟨2, by kernel_rfl, by kernel_rfl⟩
theorem powTab {W : World} (h : laidMetH Tryz.prog laid5 W) : Lib.TabIs Tryz.prog W "internal/strconv.uint64pow10" .u64 Lib.pow10Tab := by
  obtain ⟨g, h1, h2⟩ := gPow; exact Lib.tabIs_of_head h1 h2 Tryz.underlying252 Tryz.underlying227 (by kernel_rfl) (by kernel_rfl) (laidMet.tail (laidMet.tail (laid_plain h)))
theorem gNob : Tryz.prog.globalNamed "tideway/closing.nobody" = some 1 := by kernel_rfl
theorem gVer : Tryz.prog.globalNamed "tideway/closing.verdicts" = some 0 := by kernel_rfl
theorem tNob : (Tryz.prog.globals[1]?).map (·.type) = some 111 := by kernel_rfl
theorem tVer : (Tryz.prog.globals[0]?).map (·.type) = some 162 := by kernel_rfl
theorem var_lt {P : Program} {w : World} {n : String} {g : Nat} {cs : Array Value} (hg : P.globalNamed n = some g) (h : w.var? P n = some cs) : g < w.heap.size := by
  simp only [World.var?, hg, Option.bind_some] at h; by_cases hl : g < w.heap.size
  · exact hl
  · rw [Array.getElem?_eq_none (by omega)] at h; cases h
theorem only_of {P : Program} {t : TypeId} {k : Nat} (h : ((List.range P.globals.size).all fun g => (match P.globals[g]? with | some gl => !(Nat.beq gl.type t) | none => true) || Nat.beq g k) = true) : ∀ (g : Nat) gl, P.globals[g]? = some gl → gl.type = t → g = k := fun g gl hg ht => by
  have hl : g < P.globals.size := by
    by_cases hl : g < P.globals.size
    · exact hl
    · rw [Array.getElem?_eq_none (by omega)] at hg; cases hg
  have := List.all_eq_true.1 h g (List.mem_range.2 hl); rw [hg] at this; simp only [ht] at this; have e : Nat.beq t t = true := Nat.beq_refl t; rw [e] at this; exact nbeq (by simpa using this)
theorem nobodyW {W : World} (h : laidMetH Tryz.prog laid5 W) : GlobW Tryz.prog W.heap.size W (1, 111, [.int .i64 (-1), .int .i64 0]) := by
  obtain ⟨ps, ⟨g, t, cs, fuel, p, q, hg, ht, hvar, hd, _, _⟩, _⟩ := laidMet.tail (laidMet.tail (laidMet.tail (laid_plain h))); obtain rfl := Option.some.inj (gNob.symm.trans hg); obtain rfl := Option.some.inj (tNob.symm.trans ht); obtain ⟨y0, y1, n, hx, hl, h0, h1⟩ := trod_struct2 Tryz.underlying111 hd; have hl : cs.toList.length = 2 := hl.trans (by kernel_rfl); rw [show Tryz.prog.cellsOf 3 = 1 by kernel_rfl] at h0 h1; have hx := (congrArg Prod.fst hx : Rows.laid_tideway_closing_nobody = DataW.agg [y0.1, y1.1]); obtain ⟨z0, e0, f0, _⟩ := DataW.trod_int Tryz.underlying3 h0; obtain ⟨z1, e1, f1, _⟩ := DataW.trod_int Tryz.underlying3 h1; rw [f0, f1] at hx; have hx : DataW.agg [DataW.lit (H := Unit) (.int .i64 (-1)), DataW.lit (.int .i64 0)] = DataW.agg [DataW.lit (.int .i64 z0), DataW.lit (.int .i64 z1)] := hx; simp only [DataW.agg.injEq, List.cons.injEq, DataW.lit.injEq, Lit.int.injEq, true_and, and_true] at hx; obtain ⟨rfl, rfl⟩ := hx
  have hcs : cs.toList = [.int .i64 (-1), .int .i64 0] := by
    have e0 : (cs.toList.drop 0).take 1 = [.int .i64 (-1)] := e0; have e1 : (cs.toList.drop 1).take 1 = [.int .i64 0] := e1
    match hc : cs.toList, hl with
    | [a, b], _ =>
      rw [hc] at e0 e1; simp at e0 e1; rw [e0, e1]
  refine ⟨tNob, only_of (by kernel_rfl), var_lt gNob hvar, fun i hi => ?_, rfl⟩; rw [World.var?_cell gNob hvar i, ← Array.getElem?_toList, hcs]
  match i, hi with
  | 0, _ => rfl
  | 1, _ => rfl
def verD : DataW Unit := .agg [.agg [.lit (.string [107, 101, 112, 116]), .iface "func" (.lit (.string [116, 105, 100, 101, 119, 97, 121, 47, 99, 108, 111, 115, 105, 110, 103, 46, 118, 101, 114, 100, 105, 99, 116, 115, 36, 49]))], .agg [.lit (.string [109, 105, 115, 115, 101, 100]), .iface "func" (.lit (.string [116, 105, 100, 101, 119, 97, 121, 47, 99, 108, 111, 115, 105, 110, 103, 46, 118, 101, 114, 100, 105, 99, 116, 115, 36, 50]))], .agg [.lit (.string [111, 112, 101, 110]), .iface "func" (.lit (.string [116, 105, 100, 101, 119, 97, 121, 47, 99, 108, 111, 115, 105, 110, 103, 46, 118, 101, 114, 100, 105, 99, 116, 115, 36, 51]))]]
theorem verD_eq : (Rows.laid_tideway_closing_verdicts : DataW Unit) = .iface "func table" verD := by kernel_rfl
/-- One row of the table: a word and a function by its name. -/
theorem row_of {W : World} {n : Nat} {cs : List Value} {w : List UInt8} {b : UInt8} {r : List UInt8} {p : List MemPlace} {f0 : FuncId} (hone : ((List.range Tryz.prog.funcs.size).filter fun f => (Tryz.prog.funcs[f]?).any (·.name.toUTF8.data.toList == b :: r)) = [f0])
    (h : DataW.trod (funcToken Tryz.prog) Tryz.prog W 0 (fun _ => true) true n 161 cs = some (.agg [.lit (.string w), .held (b :: r)], p)) : cs = [.string ⟨w.toArray⟩, .func (.func f0) #[] #[]] := by
  obtain ⟨y0, y1, n, hx, hl, h0, h1⟩ := trod_struct2 Tryz.underlying161 h; have hl : cs.length = 2 := hl.trans (by kernel_rfl); rw [show Tryz.prog.cellsOf 9 = 1 by kernel_rfl] at h0; rw [show Tryz.prog.cellsOf 159 = 1 by kernel_rfl] at h1
  match cs, hl with
  | [a, c], _ =>
    obtain ⟨s, e0, f0', _⟩ := DataW.trod_string Tryz.underlying9 h0; have hx := congrArg Prod.fst hx; simp only [DataW.agg.injEq, List.cons.injEq, and_true] at hx; obtain ⟨hx0, hx1⟩ := hx; rw [f0'] at hx0; simp only [DataW.lit.injEq, Lit.string.injEq] at hx0
    have h1 : DataW.trod (funcToken Tryz.prog) Tryz.prog W 0 (fun _ => true) true n 159 [c] = some (.held (b :: r), y1.2) := by rw [hx1]; exact h1
    have hc := func_of_trod Tryz.underlying159 hone h1; have e0 : [a] = [Value.string s] := e0; simp only [List.cons.injEq, and_true] at e0
    have hs : s = ⟨w.toArray⟩ := by
      cases s with
      | mk d => cases d with
        | mk l => simp only at hx0; rw [hx0]
    rw [e0, hc, hs]
theorem trod_arr {P : Program} {w : World} {enc : TypeId × Value → List UInt8} {base : Nat} {sp : Nat → Bool} {held : Bool} {fuel : Nat} {t e : TypeId} {n : Nat} {cs : List Value} {x : DataW (List UInt8) × List MemPlace} (ht : P.underlying t = some (.array n e)) (h : DataW.trod enc P w base sp held fuel t cs = some x) :
    ∃ xs m, (DataW.agg (xs.map (·.1)), xs.flatMap (·.2)) = x ∧ cs.length = P.cellsOf t ∧ ((List.range n).mapM fun i => DataW.trod enc P w base sp held m e ((cs.drop (i * P.cellsOf e)).take (P.cellsOf e))) = some xs := by
  cases fuel with
  | zero => simp [DataW.trod] at h
  | succ fuel =>
    simp only [DataW.trod, ht] at h; split at h
    · rename_i hl; obtain ⟨xs, hm, hx⟩ := Option.map_eq_some_iff.1 h; exact ⟨xs, fuel, hx, hl, hm⟩
    · cases h
theorem verdictsW {W : World} (h : laidMetH Tryz.prog laid5 W) : GlobW Tryz.prog W.heap.size W (0, 162, [.string ⟨#[107, 101, 112, 116]⟩, .func (.func 237) #[] #[], .string ⟨#[109, 105, 115, 115, 101, 100]⟩, .func (.func 238) #[] #[], .string ⟨#[111, 112, 101, 110]⟩, .func (.func 239) #[] #[]]) := by
  have hm : ("tideway/closing.verdicts", DataW.iface "func table" verD) ∈ laid5 := by
    rw [← verD_eq]; exact .tail _ (.tail _ (.tail _ (.tail _ (.head _))))
  obtain ⟨g, t, cs, fuel, p, hg, ht, hvar, hd⟩ := h.funcs hm; obtain rfl := Option.some.inj (gVer.symm.trans hg); obtain rfl := Option.some.inj (tVer.symm.trans ht); obtain ⟨xs, n, hx, hl, hm⟩ := trod_arr Tryz.underlying162 hd; have hl : cs.toList.length = 6 := hl.trans (by kernel_rfl); rw [show Tryz.prog.cellsOf 161 = 2 by kernel_rfl] at hm
  have hxl : xs.length = 3 := by simpa using Lib.mapM_length hm
  match xs, hxl with
  | [x0, x1, x2], _ =>
    have hx := congrArg Prod.fst hx; have hx : DataW.agg [x0.1, x1.1, x2.1] = verD.funcsOut := hx
    have hv : verD.funcsOut = .agg [.agg [.lit (.string [107, 101, 112, 116]), .held [116, 105, 100, 101, 119, 97, 121, 47, 99, 108, 111, 115, 105, 110, 103, 46, 118, 101, 114, 100, 105, 99, 116, 115, 36, 49]], .agg [.lit (.string [109, 105, 115, 115, 101, 100]), .held [116, 105, 100, 101, 119, 97, 121, 47, 99, 108, 111, 115, 105, 110, 103, 46, 118, 101, 114, 100, 105, 99, 116, 115, 36, 50]], .agg [.lit (.string [111, 112, 101, 110]), .held [116, 105, 100, 101, 119, 97, 121, 47, 99, 108, 111, 115, 105, 110, 103, 46, 118, 101, 114, 100, 105, 99, 116, 115, 36, 51]]] := by kernel_rfl
    rw [hv] at hx; simp only [DataW.agg.injEq, List.cons.injEq, and_true] at hx; obtain ⟨hx0, hx1, hx2⟩ := hx; obtain ⟨b0, g0, q0⟩ := Lib.mapM_at hm 0 0 rfl; obtain ⟨b1, g1, q1⟩ := Lib.mapM_at hm 1 1 rfl; obtain ⟨b2, g2, q2⟩ := Lib.mapM_at hm 2 2 rfl; obtain rfl := Option.some.inj g0; obtain rfl := Option.some.inj g1; obtain rfl := Option.some.inj g2; have r0 := row_of (f0 := 237) (p := x0.2) (by kernel_rfl) (q0.trans (by rw [← hx0])); have r1 := row_of (f0 := 238) (p := x1.2) (by kernel_rfl) (q1.trans (by rw [← hx1])); have r2 := row_of (f0 := 239) (p := x2.2) (by kernel_rfl) (q2.trans (by rw [← hx2]))
    have hcs : cs.toList = [.string ⟨#[107, 101, 112, 116]⟩, .func (.func 237) #[] #[], .string ⟨#[109, 105, 115, 115, 101, 100]⟩, .func (.func 238) #[] #[], .string ⟨#[111, 112, 101, 110]⟩, .func (.func 239) #[] #[]] := by
      match hc : cs.toList, hl with
      | [a, b, c, d, e, f], _ =>
        rw [hc] at r0 r1 r2; simp at r0 r1 r2; rw [r0.1, r0.2, r1.1, r1.2, r2.1, r2.2]
    refine ⟨tVer, only_of (by kernel_rfl), var_lt gVer hvar, fun i hi => ?_, rfl⟩; rw [World.var?_cell gVer hvar i, ← Array.getElem?_toList, hcs]
    match i, hi with
    | 0, _ => rfl
    | 1, _ => rfl
    | 2, _ => rfl
    | 3, _ => rfl
    | 4, _ => rfl
    | 5, _ => rfl
end Go.Proofs.YtjmkmalgfanifaaGreatDoor
namespace Go.Fs
open Go.RowKit (Below)
open Go.Sort Go.Proofs
abbrev Cl3 := Int × Int × ByteArray
def encC (x : Cl3) : List Value := [.int .i64 x.1, .int .i64 x.2.1, .string x.2.2]
theorem encC_len : ∀ xs : List Cl3, (xs.flatMap encC).length = xs.length * 3
  | [] => rfl
  | x :: r => by rw [List.flatMap_cons, List.length_append, encC_len r]; simp [encC]; omega
variable {P : Program} {O : FuncId → List Value → Heap → Option (Value × Heap)} {h h' : Heap} {S : List Nat}
end Go.Fs
namespace Go.Fs
open Go.RowKit (Below)
open Go.Sort Go.Proofs Go.Shelf
variable {P : Program}
def orcN : FuncId → List Value → Heap → Option (Value × Heap) := fun _ _ _ => none
theorem orcN_sound {B : Nat} {w0 : World} : CallSound P B w0 orcN := fun f xs h v h' hf => by cases hf
theorem fs_openD (hP : ProgOk P) {B : Nat} {w0 w : World} {orc : FuncId → List Value → Heap → Option (Value × Heap)} (horc : CallSound P B w0 orc) {ρ : Ren} {S : Nat → Prop} {h : Heap} {f : FuncId} {args args' : List Value} {v : Value}
    (hE : Enters P f) (hr : HR P ρ S B w0 h w) (ha : LR ρ S args args') (he : EvF P orc f args h fun u _ => u = v) (hv : af v = true) : Calls P f args'.toArray w fun | .returned v', w' => v' = v ∧ Below B w0 w' ∧ w0.drawn ≤ w'.drawn | _, _ => False := by
  obtain ⟨m, u, h', h1, rfl⟩ := he
  have hc : CallsIn Fence.wide 0 P f args'.toArray w (RetR P B w0 ρ S h w u h') := by
    rcases call_sound hP horc (code_sound hP horc m) f args h u h' h1 with h2 | h2
    · exact h2.2 ρ S w args' hr ha 0
    obtain ⟨w', v', h3, _⟩ := h2 ρ S w args' hr ha; rw [callFunc_run hE] at h3; simp at h3
  refine Calls.mono (callsIn_wide.1 hc) fun e w' he => ?_
  cases e with
  | returned v' =>
    obtain ⟨ρ', m1, hv1⟩ := he
    exact ⟨hv1.eq_of_af hv, m1.hr.below, m1.hr.drawn⟩
  | panicked c => exact he.elim
  | outgrown => exact he.elim
theorem grown_of {w w' : World} (h : Below w.heap.size w w') (hd : w.drawn ≤ w'.drawn) : ∃ q os, w' = grow (w.drewN q) os := by
  obtain ⟨p, hp⟩ := regrown_of_below h; refine ⟨p.d - w.drawn, p.os, ?_⟩
  have e : p.d = w'.drawn := by rw [hp]; rfl
  rw [hp]; congr 1; unfold redrawn World.drewN; congr 1; omega
theorem flatC (ys : List Cl3) : flatK encC 3 ys.toArray = (ys.flatMap encC).toArray := by
  refine ext_get! (by rw [size_flatK, List.size_toArray, List.size_toArray, encC_len]) fun t ht => ?_
  have ht' : t < ys.length * 3 := by simpa using ht
  rw [get_flatK _ _ _ _ (by simpa using ht')]
  have key : ∀ (zs : List Cl3) (t : Nat), t < zs.length * 3 → (zs.flatMap encC)[t]! = (encC (zs[t / 3]!))[t % 3]! := by
    intro zs
    induction zs with
    | nil => intro t ht; simp at ht
    | cons z zs ih =>
      intro t ht; rw [List.flatMap_cons]; by_cases h3 : t < 3
      · have e1 : t / 3 = 0 := by omega
        have e2 : t % 3 = t := by omega
        rw [e1, e2]; simp [encC]; rcases t with _ | _ | _ | t
        · rfl
        · rfl
        · rfl
        omega
      obtain ⟨u, rfl⟩ : ∃ u, t = u + 3 := ⟨t - 3, by omega⟩
      have e1 : (u + 3) / 3 = u / 3 + 1 := by omega
      have e2 : (u + 3) % 3 = u % 3 := by omega
      rw [e1, e2]; have := ih u (by simp at ht; omega); simpa [encC] using this
  have := key ys t ht'; simpa using this.symm
end Go.Fs
namespace Go.Fs
variable {P : Program} {orc : FuncId → List Value → Heap → Option (Value × Heap)} {rnd : Option Nat} {h h' h0 h1 h2 : Heap} {S S' S0 G : List Nat} {σ σ' σr γ γ' : Sto} {t t' : Tr} {ms : List Nat} {fl nw : VL} {ops : Array Oper} {n i mem : Nat} {l : List Oper} {K : VL → Sto → Prop} {Q : Ex → VL → Sto → Prop}
  {d : Tmp} {ty : TypeId} {pos : String} {after : Array Edge} {op : Op} {v pv : PV} {g : Option (Nat × Bool)} {bs nw0 : List Nat} {tail so : Bool} {x y z : Operand} {T T' e : TypeId} {τ τ' : Ty} {w w' : Value}
end Go.Fs
namespace Go.Fs
variable {P : Program} {orc : FuncId → List Value → Heap → Option (Value × Heap)} {rnd : Option Nat} {h h' h0 h1 h2 : Heap} {S S' S0 G : List Nat} {σ σ' σr γ γ' : Sto} {t t' : Tr} {ms : List Nat} {fl nw : VL} {ops : Array Oper} {n i mem : Nat} {l : List Oper} {K : VL → Sto → Prop} {Q : Ex → VL → Sto → Prop}
  {d : Tmp} {ty : TypeId} {pos : String} {after : Array Edge} {op : Op} {v pv : PV} {g : Option (Nat × Bool)} {bs nw0 : List Nat} {tail so : Bool} {x y z : Operand} {T T' e : TypeId} {τ τ' : Ty} {w w' : Value}
end Go.Fs
namespace Go.Fs
variable {P : Program} {orc : FuncId → List Value → Heap → Option (Value × Heap)} {h h' h0 h1 h2 : Heap} {S S' S0 G : List Nat} {σ σ' γ γ' : Sto} {t t' : Tr} {ms : List Nat} {fl : VL} {τ : Ty}
end Go.Fs
namespace Go.Fs
variable {P : Program} {orc : FuncId → List Value → Heap → Option (Value × Heap)} {h h' h0 h1 h2 : Heap} {S S' S0 G : List Nat} {σ σ' : Sto} {t t' : Tr} {ms : List Nat} {fl : VL} {ops : Array Oper} {n i mem : Nat} {l : List Oper} {K : VL → Sto → Prop}
  {d : Tmp} {ty : TypeId} {pos : String} {after : Array Edge} {g : Option (Nat × Bool)} {bs nw : List Nat} {tail so : Bool} {e : TypeId} {τ : Ty}
end Go.Fs
namespace Go.Proofs.Cmp
open Go.Fs
set_option maxHeartbeats 1000000
abbrev y111FZ : Ty := (.pair (.int .i64) (.int .i64))
theorem vt3FZ : ValT Tryz.prog 3 (.int .i64) := valT_of (by kernel_rfl)
theorem nNaN_ok {x : Int} : VF Tryz.prog orcN 184 [I x] (B false) := by
  refine VF.enter Tryz.func184 rfl (fun _ _ => rfl) rfl ?_; show VC _ _ _ _ _ [(0, I x)] [] _; refine VC.seq (VC.text ?_); refine VO.c (.assign rfl) ?_; refine VO.go (VC.seq (VC.text ?_)); refine VO.c (.move rfl) (VO.c (.move rfl) (VO.c (.neq) (VO.c (.assign rfl) ?_))); refine VO.go ?_; refine VC.ret ?_; exact VEnd.one rfl evT (pvE (by simp))
theorem nCompare_ok {x : Int} {y : Int} : VF Tryz.prog orcN 165 [I x, I y] (I (Lib.compareInt x y)) := by
  refine VF.enter Tryz.func165 rfl (fun _ _ => rfl) rfl ?_; show VC _ _ _ _ _ [(0, I x), (1, I y)] [] _; refine VC.seq (VC.text ?_); refine VO.c (.assign rfl) ?_; refine VO.go (VC.seq (VC.text ?_)); refine VO.c (.move rfl) ?_; refine VO.call rfl rfl (VF.call (nNaN_ok )) ?_; refine VO.c (.assign rfl) ?_; refine VO.go (VC.seq (VC.text ?_)); refine VO.c (.move rfl) ?_; refine VO.call rfl rfl (VF.call (nNaN_ok )) ?_; refine VO.c (.assign rfl) ?_; refine VO.go (VC.seq (VC.seq (VC.text ?_))); refine VO.c (.move rfl) (VO.go ?_); refine VC.condF rfl ?_; refine VC.skip (VC.seq (VC.seq (VC.text ?_))); refine VO.c (.move rfl) (VO.go ?_); refine VC.condF rfl ?_; refine VC.skip (VC.seq (VC.seq (VC.text ?_))); refine VO.c (.move rfl) (VO.c (.move rfl) (VO.c (.lss) (VO.go ?_))); refine VC.condD rfl (fun c9 => ?_) (fun c9 => ?_)
  · refine VC.seq (VC.text ?_); refine VO.c (.assign rfl) (VO.go ?_); refine VC.ret ?_; exact VEnd.one rfl evT (pvI (by unfold Lib.compareInt; simp [*]))
  refine VC.skip (VC.seq (VC.seq (VC.text ?_))); refine VO.c (.move rfl) (VO.c (.move rfl) (VO.c (.gtr) (VO.go ?_))); refine VC.condD rfl (fun c11 => ?_) (fun c11 => ?_)
  · refine VC.seq (VC.text ?_); refine VO.c (.assign rfl) (VO.go ?_); refine VC.ret ?_; exact VEnd.one rfl evT (pvI (by unfold Lib.compareInt; simp [*]))
  refine VC.skip (VC.seq (VC.text ?_)); refine VO.c (.assign rfl) (VO.go ?_); refine VC.ret ?_; exact VEnd.one rfl evT (pvI (by unfold Lib.compareInt; simp [*]))
theorem nPas_ok {x : Int × Int} {y : Int × Int} : VF Tryz.prog orcN 187 [.v y111FZ x, .v y111FZ y] (I (Lib.compareInt x.1 y.1)) := by
  refine VF.enter Tryz.func187 rfl (fun _ _ => rfl) rfl ?_; show VC _ _ _ _ _ [(0, .v y111FZ x), (1, .v y111FZ y)] [] _; refine VC.seq (VC.text ?_); refine VO.new (.box) ?_; refine VO.new (.box) ?_; refine VO.c (.assign rfl) ?_; refine VO.go (VC.seq (VC.text ?_)); refine VO.c (.fa (.l .o)) ?_; refine VO.r (.ld vt3FZ) ?_; refine VO.c (.fa (.l .o)) ?_; refine VO.r (.ld vt3FZ) ?_; refine VO.call rfl rfl (VF.call (nCompare_ok )) ?_; refine VO.c (.assign rfl) (VO.go ?_); refine VC.ret ?_; exact VEnd.one rfl evT (pvI (by rfl))
end Go.Proofs.Cmp
namespace Go.Proofs
open Go.Shelf
def Tryz.sortPas_ren : Go.Shelf.Ren := ⟨fun | 6 => 186 | 15 => 159 | 14 => 200 | 28 => 179 | 29 => 180 | 20 => 206 | 21 => 207 | 22 => 208 | 23 => 209 | 24 => 210 | 25 => 211 | 26 => 212 | 27 => 213 | 46 => 216 | 47 => 191 | 48 => 192 | 49 => 217 | 50 => 218 | 57 => 219 | n => n, fun | 22 => 59 | 24 => 111 | 25 => 233 | 3 => 3 | 39 => 210 | 0 => 0 | 53 => 225 | 55 => 227 | 4 => 4 | 46 => 219 | 45 => 218 | 50 => 164 | 5 => 5 | 9 => 9 | 66 => 236 | 70 => 240 | 76 => 248 | 77 => 249 | n => n, fun | n => n⟩
theorem Tryz.sortPas : Go.Proofs.SlLaysF0.n6 Tryz.prog Tryz.sortPas_ren := {
  mixed := by kernel_rfl
  f6 := ⟨Tryz.f186.name, by decide, Tryz.func186.trans (congrArg some (by kernel_rfl))⟩
  f14 := ⟨Tryz.f200.name, by decide, Tryz.func200.trans (congrArg some (by kernel_rfl))⟩
  f15 := Tryz.func159.trans (congrArg some (by kernel_rfl))
  f20 := ⟨Tryz.f206.name, by decide, Tryz.func206.trans (congrArg some (by kernel_rfl))⟩
  f21 := ⟨Tryz.f207.name, by decide, Tryz.func207.trans (congrArg some (by kernel_rfl))⟩
  f22 := ⟨Tryz.f208.name, by decide, Tryz.func208.trans (congrArg some (by kernel_rfl))⟩
  f23 := ⟨Tryz.f209.name, by decide, Tryz.func209.trans (congrArg some (by kernel_rfl))⟩
  f24 := ⟨Tryz.f210.name, by decide, Tryz.func210.trans (congrArg some (by kernel_rfl))⟩
  f25 := ⟨Tryz.f211.name, by decide, Tryz.func211.trans (congrArg some (by kernel_rfl))⟩
  f26 := ⟨Tryz.f212.name, by decide, Tryz.func212.trans (congrArg some (by kernel_rfl))⟩
  f27 := ⟨Tryz.f213.name, by decide, Tryz.func213.trans (congrArg some (by kernel_rfl))⟩
  f28 := Tryz.func179.trans (congrArg some (by kernel_rfl))
  f29 := Tryz.func180.trans (congrArg some (by kernel_rfl))
  f46 := ⟨Tryz.f216.name, by decide, Tryz.func216.trans (congrArg some (by kernel_rfl))⟩
  f47 := Tryz.func191.trans (congrArg some (by kernel_rfl))
  f48 := Tryz.func192.trans (congrArg some (by kernel_rfl))
  f49 := ⟨Tryz.f217.name, by decide, Tryz.func217.trans (congrArg some (by kernel_rfl))⟩
  f50 := ⟨Tryz.f218.name, by decide, Tryz.func218.trans (congrArg some (by kernel_rfl))⟩
  f57 := ⟨Tryz.f219.name, by decide, Tryz.func219.trans (congrArg some (by kernel_rfl))⟩
  t0 := Tryz.underlying0
  a0 := Tryz.isAgg0
  z0 := Tryz.sizeOf0
  v0 := Tryz.zeroValue0
  t3 := Tryz.underlying3
  a3 := Tryz.isAgg3
  z3 := Tryz.sizeOf3
  v3 := Tryz.zeroValue3
  t4 := Tryz.underlying4
  a4 := Tryz.isAgg4
  z4 := Tryz.sizeOf4
  v4 := Tryz.zeroValue4
  t5 := Tryz.underlying5
  a5 := Tryz.isAgg5
  z5 := Tryz.sizeOf5
  v5 := Tryz.zeroValue5
  t9 := Tryz.underlying9
  a9 := Tryz.isAgg9
  z9 := Tryz.sizeOf9
  v9 := Tryz.zeroValue9
  t22 := Tryz.underlying59
  a22 := Tryz.isAgg59
  z22 := Tryz.sizeOf59
  v22 := Tryz.zeroValue59
  t25 := Tryz.underlying233
  a25 := Tryz.isAgg233
  z25 := Tryz.sizeOf233
  v25 := Tryz.zeroValue233
  t39 := Tryz.underlying210
  a39 := Tryz.isAgg210
  z39 := Tryz.sizeOf210
  v39 := Tryz.zeroValue210
  t45 := Tryz.underlying218
  a45 := Tryz.isAgg218
  z45 := Tryz.sizeOf218
  v45 := Tryz.zeroValue218
  t46 := Tryz.underlying219
  a46 := Tryz.isAgg219
  z46 := Tryz.sizeOf219
  v46 := Tryz.zeroValue219
  t50 := Tryz.underlying164
  a50 := Tryz.isAgg164
  z50 := Tryz.sizeOf164
  v50 := Tryz.zeroValue164
  t53 := Tryz.underlying225
  a53 := Tryz.isAgg225
  z53 := Tryz.sizeOf225
  v53 := Tryz.zeroValue225
  t55 := Tryz.underlying227
  a55 := Tryz.isAgg227
  z55 := Tryz.sizeOf227
  v55 := Tryz.zeroValue227
  t66 := Tryz.underlying236
  a66 := Tryz.isAgg236
  z66 := Tryz.sizeOf236
  v66 := Tryz.zeroValue236
  t70 := Tryz.underlying240
  a70 := Tryz.isAgg240
  z70 := Tryz.sizeOf240
  v70 := Tryz.zeroValue240
  t76 := Tryz.underlying248
  a76 := Tryz.isAgg248
  z76 := Tryz.sizeOf248
  v76 := Tryz.zeroValue248
  t77 := Tryz.underlying249
  a77 := Tryz.isAgg249
  z77 := Tryz.sizeOf249
  v77 := Tryz.zeroValue249 }
end Go.Proofs
namespace Go.Fs
open Go.Sort Go.Proofs Go.Shelf
theorem flatAny {α : Type} [Inhabited α] {enc : α → List Value} {k : Nat} (hk : 0 < k) (hl : ∀ x, (enc x).length = k) (ys : List α) : flatK enc k ys.toArray = (ys.flatMap enc).toArray := by
  have hlen : ∀ zs : List α, (zs.flatMap enc).length = zs.length * k := by
    intro zs
    induction zs with
    | nil => simp
    | cons z zs ih => rw [List.flatMap_cons, List.length_append, ih, hl, List.length_cons, Nat.add_mul]; omega
  refine ext_get! (by rw [size_flatK, List.size_toArray, List.size_toArray, hlen]) fun t ht => ?_
  have ht' : t < ys.length * k := by simpa using ht
  rw [get_flatK _ _ _ _ (by simpa using ht')]
  have key : ∀ (zs : List α) (t : Nat), t < zs.length * k → (zs.flatMap enc)[t]! = (enc (zs[t / k]!))[t % k]! := by
    intro zs
    induction zs with
    | nil => intro t ht; simp at ht
    | cons z zs ih =>
      intro t ht; rw [List.flatMap_cons]; by_cases h3 : t < k
      · rw [Nat.div_eq_of_lt h3, Nat.mod_eq_of_lt h3]
        have h4 : t < (enc z).length := by rw [hl]; exact h3
        have h5 : t < (enc z ++ zs.flatMap enc).length := by rw [List.length_append]; omega
        rw [getElem!_pos (enc z ++ zs.flatMap enc) t h5, List.getElem_append_left h4]; show _ = (enc z)[t]!; rw [getElem!_pos (enc z) t h4]
      obtain ⟨u, rfl⟩ : ∃ u, t = u + k := ⟨t - k, by omega⟩
      have hu : u < zs.length * k := by rw [List.length_cons, Nat.add_mul] at ht; omega
      have e1 : (u + k) / k = u / k + 1 := Nat.add_div_right u hk; have e2 : (u + k) % k = u % k := Nat.add_mod_right u k; rw [e1, e2]
      have h5 : u + k < (enc z ++ zs.flatMap enc).length := by rw [List.length_append, hl, hlen]; omega
      have h6 : u < (zs.flatMap enc).length := by rw [hlen]; exact hu
      have ih := ih u hu; rw [getElem!_pos (zs.flatMap enc) u h6] at ih; rw [getElem!_pos (enc z ++ zs.flatMap enc) (u + k) h5, List.getElem_append_right (by rw [hl]; omega)]
      have e3 : u + k - (enc z).length = u := by rw [hl]; omega
      simp only [e3]; rw [ih]; simp
  have := key ys t ht'; simpa using this.symm
end Go.Fs
namespace Go.Fs
open Go.RowKit (Below)
open Go.Sort Go.Proofs Go.Shelf
variable {P : Program}
theorem gHeap_hrW {w : World} {n : Nat} {L : List (Nat × TypeId × List Value)} (hn : ∀ x ∈ L, x.1 + 1 < n) (hp : 0 < n) (hL : ∀ x ∈ L, GlobW P w.heap.size w x) :
    HR P (globR P) (fun b => ∃ x ∈ L, b = x.1 + 1) w.heap.size w (gHeap n L) w :=
  have h := gHeap_hr hn hp hL
  { objs := h.objs, inj := h.inj, base := h.base, ro := h.ro, ids := h.ids, pos := h.pos, below := Below.refl _ _, drawn := Nat.le_refl _, size := h.size }
theorem sortW_block {α : Type} [Inhabited α] {enc : α → List Value} {k m blk off : Nat} {w : World} {dk : Array α} {os : Array Obj} {j : Nat} (hj : j < w.heap.size) (hb : j ≠ blk) : (sortWorldK enc k w blk off m dk os).heap[j]? = w.heap[j]? := by
  unfold sortWorldK putRowK; rw [heap_grow_old _ _ (by simpa [putRow, mapBlock, Sort.ahead] using hj)]; simp [putRow, mapBlock, Sort.ahead, Array.getElem?_modify, Ne.symm hb]
theorem sortW_size {α : Type} [Inhabited α] {enc : α → List Value} {k m blk off : Nat} {w : World} {dk : Array α} {os : Array Obj} : w.heap.size ≤ (sortWorldK enc k w blk off m dk os).heap.size := by
  simp [sortWorldK, putRowK, grow, putRow, mapBlock, Sort.ahead]
theorem cmp_laysG {α : Type} [Inhabited α] (hP : ProgOk P) {g : FuncId} (hE : Enters P g) {enc : α → List Value} {k : Nat} {cf : α → α → Int} {B blk off size n : Nat} {w : World} {L : List (Nat × TypeId × List Value)} (hn : ∀ x ∈ L, x.1 + 1 < n) (hp : 0 < n) (hB : B ≤ blk) (hBw : B ≤ w.heap.size) (hL : ∀ x ∈ L, GlobW P B w x) (haf : ∀ x, (enc x).all af0 = true)
    (h : ∀ x y : α, EvF P orcN g [.agg (enc x).toArray, .agg (enc y).toArray] (gHeap n L) fun u _ => u = .int .i64 (cf x y)) : CmpLays P g #[] enc k cf blk off size w := fun m os dk _ x y => by
  have hA : ∀ x, VR (globR P) (fun b => ∃ x ∈ L, b = x.1 + 1) (.agg (enc x).toArray) (.agg (enc x).toArray) := fun x => VR.agg' (LR.self_af0 (by simpa using haf x)); have hl : LR (globR P) (fun b => ∃ x ∈ L, b = x.1 + 1) [.agg (enc x).toArray, .agg (enc y).toArray] [.agg (enc x).toArray, .agg (enc y).toArray] := LR.cons (hA x) (LR.cons (hA y) LR.nil)
  have hL2 : ∀ z ∈ L, GlobW P (sortWorldK enc k w blk off m dk os).heap.size (sortWorldK enc k w blk off m dk os) z := fun z hz => by
    have h0 := hL z hz; have hzb := h0.block; exact ⟨h0.type, h0.only, Nat.lt_of_lt_of_le (Nat.lt_of_lt_of_le hzb hBw) sortW_size, fun i hi => (World.cell?_of_block (a := ⟨z.1, i, none⟩) (sortW_block (by show z.1 < _; omega) (by show z.1 ≠ _; omega))).trans (h0.cells i hi), h0.vals⟩
  refine (fs_openD (args' := [.agg (enc x).toArray, .agg (enc y).toArray]) hP orcN_sound hE (gHeap_hrW (w := sortWorldK enc k w blk off m dk os) hn hp hL2) hl (h x y) rfl).mono fun e w' he => ?_
  cases e with
  | returned v' =>
    obtain ⟨rfl, h1, h2⟩ := he; obtain ⟨q, os', h3⟩ := grown_of h1 h2
    exact ⟨rfl, q, os', h3⟩
  | panicked c => exact he.elim
  | outgrown => exact he.elim
end Go.Fs
namespace Go.Proofs.YtjmkmalgfanifaaGreatDoor
open Go.ChangeShapes Go.WideShapes Go.ChangeAt Go.RowKit Go.Fs
theorem own : ownKnob Tryz.prog.godebug = none := by kernel_rfl
theorem laidOut : laidOutB Tryz.prog = true := by kernel_rfl
theorem tzGlob {W : World} (h : laidMetH Tryz.prog laid5 W) : ∀ x ∈ tzG, GlobW Tryz.prog W.heap.size W x := fun x hx => by
  rcases List.mem_cons.1 hx with rfl | hx
  · exact verdictsW h
  · obtain rfl := List.mem_singleton.1 hx; exact nobodyW h
theorem tzGT : GT (gHeap 3 tzG) [] := fun v hv => by
  rcases List.mem_cons.1 hv with rfl | hv
  · exact ⟨[.int .i64 (-1), .int .i64 0], rfl, by simp, rfl, fun _ _ => ⟨rfl, rfl⟩⟩
  · obtain rfl := List.mem_singleton.1 hv; exact ⟨[.string ⟨#[107, 101, 112, 116]⟩, .func (.func 237) #[] #[], .string ⟨#[109, 105, 115, 115, 101, 100]⟩, .func (.func 238) #[] #[], .string ⟨#[111, 112, 101, 110]⟩, .func (.func 239) #[] #[]], rfl, by simp, rfl, fun _ _ => ⟨⟨rfl, rfl⟩, ⟨rfl, rfl⟩, rfl, rfl⟩⟩
theorem seatHr {W : World} (h : laidMetH Tryz.prog laid5 W) : HR Tryz.prog (globR Tryz.prog) (fun b => ∃ x ∈ tzG, b = x.1 + 1) W.heap.size (Go.Fs.wz W) (gHeap 3 tzG) W := gHeap_hr (by decide) (by decide) (tzGlob h)
theorem tzSortE : Fs.Enters Tryz.prog 186 := ⟨_, Tryz.func186, rfl, by kernel_rfl⟩
theorem tzCmpE : Fs.Enters Tryz.prog 187 := ⟨_, Tryz.func187, rfl, by kernel_rfl⟩
abbrev tyE : Ty := .pair (.int .i64) (.int .i64)
abbrev encE (x : Int × Int) : List Value := [.int .i64 x.1, .int .i64 x.2]
theorem gHeap_ok {n : Nat} {L : List (Nat × TypeId × List Value)} (hn : ∀ x ∈ L, x.1 + 1 < n) : HOk (gHeap n L) := fun b o hg => by
  obtain ⟨x, hx, rfl, _⟩ := gHeap_get hg; exact hn x hx
theorem tzCmp (x y : Int × Int) : EvF Tryz.prog orcN 187 [.agg (encE x).toArray, .agg (encE y).toArray] (gHeap 3 tzG) fun u _ => u = .int .i64 (cmpE x y) := by
  have hr : ∀ x : Int × Int, RepPV (gHeap 3 tzG) [] (.v tyE x) (.agg (encE x).toArray) := fun x => ⟨rfl, rfl, rfl⟩; exact (Cmp.nPas_ok (x := x) (y := y) (gHeap 3 tzG) [] [.agg (encE x).toArray, .agg (encE y).toArray] (gHeap_ok (by decide)) ⟨fun b hb => (by cases hb), tzGT⟩ ⟨_, _, rfl, hr x, _, _, rfl, hr y, rfl⟩).mono fun u h' hq => RepV.int hq.2.1
/-- The sort of passages by the library's contract. -/
theorem tzSortT {W : World} (ht : laidMetH Tryz.prog laid5 W) (blk cap n : Nat) (vs vs' : List Value) (w : World) (hl : vs.length = n * 2) (hs : srtG (τ := tyE) cmpE vs = some vs') (hb : Below W.heap.size (Go.Fs.wz W) w) (hBb : W.heap.size ≤ blk) (hH : Go.Sort.Holds id w blk 0 vs.toArray) (hblk : blk < w.heap.size) (hn : n ≤ 1000000) :
    Calls Tryz.prog 186 #[.slice (some ⟨blk, 0, none⟩) n cap, .func (.func 187) #[] #[]] w fun e w' => e = .returned (.tuple #[]) ∧ ∃ q os, w' = Go.Sort.grow (Go.Sort.putRow id (Go.Sort.ahead w q) blk 0 vs'.toArray) os := by
  obtain ⟨xs, rfl, rfl⟩ := srtG_inv hs; have hlen : ∀ ys : List (Int × Int), (encL tyE ys).length = ys.length * 2 := fun ys => encL_len (τ := tyE) rfl ys
  have hxs : xs.length = n := by rw [hlen] at hl; omega
  have hflat : ∀ ys : List (Int × Int), Go.Sort.flatK encE 2 ys.toArray = (encL tyE ys).toArray := fun ys => flatAny (enc := encE) (k := 2) (by decide) (fun _ => rfl) ys; have hcmp := cmp_laysG (P := Tryz.prog) tzOk tzCmpE (enc := encE) (k := 2) (cf := cmpE) (blk := blk) (off := 0) (size := xs.toArray.size) (w := w) (n := 3) (L := tzG) (by decide) (by decide) hBb hb.size (fun x hx => (tzGlob ht x hx).below (below_z hb)) (fun x => rfl) tzCmp; have hcon := AnyQ.slices_SortFunc_eq Tryz.sortPas 2 Tryz.isAgg111 Tryz.sizeOf111 encE (fun _ => rfl) (fun x v hv => by simp [encE] at hv; rcases hv with rfl | rfl <;> rfl) cmpE swoE 187 #[] blk 0 cap xs.toArray w (callFunc_run tzCmpE) hcmp (by unfold Go.Sort.HoldsK; rw [hflat]; exact hH) hblk (by simp; omega); have hcon : Calls Tryz.prog 186 #[.slice (some ⟨blk, 0, none⟩) xs.toArray.size cap, .func (.func 187) #[] #[]] w _ := hcon; rw [show xs.toArray.size = n by simpa using hxs] at hcon; refine hcon.mono fun e w' he => ?_; obtain ⟨he, q, os, hw⟩ := he; refine ⟨he, q, os, ?_⟩; rw [hw]; unfold Go.Proofs.sortWorldK Go.Sort.putRowK
  have e2 : (Go.Sort.pdq (ltOf cmpE) xs.toArray 0 n (Lib.bitLen n) true true) = (Go.Fs.sortG (τ := tyE) cmpE xs).toArray := by unfold Go.Fs.sortG; simp [hxs]; rfl
  rw [e2, hflat]
/-- The oracle is sound wherever the tables lie. -/
theorem orcOk {W : World} (h : laidMetH Tryz.prog laid5 W) : CallSound Tryz.prog W.heap.size (Go.Fs.wz W) OA := by
  have hT : ∀ w, Below W.heap.size W w → Lib.TabIs Tryz.prog w "internal/strconv.uint64pow10" .u64 Lib.pow10Tab := Lib.tabBelow_of_tabIs (powTab h)
  have hS : ∀ w, Below W.heap.size W w → CallSound Tryz.prog w.heap.size (Go.Fs.wz w) OB := fun w hw =>
    tzOrcB rfl (Nat.le_refl _) fun w' hw' => hT w' (hw.trans ((below_z hw').mono hw.size))
  refine orcF_sound rfl (srtG_ok rfl swoE) ?_ tzSortE (fun w hw => (AnyF.slices_SortFunc_none Tryz.sortPas none 0 _ w).mono fun e w' he => by obtain ⟨rfl, rfl⟩ := he; exact ⟨rfl, Below.refl _ _⟩) (tzSortT h); refine orcA_sound rfl (tzOrc rfl (Nat.le_refl _) fun w' hw' => hT w' (below_z hw')) tzAwakeE fun w hw => ?_; exact awakeGc_calls tzOk (n := 3) (L := tzG) (by decide) (by decide) (tzGlob h) (fun w hw => hw.size) (fun w' hw' => hS w' hw') tzRun w (below_z hw)
noncomputable def doorWorld (os : Os) : World := World.doorLaid Tryz.prog 200 os
end Go.Proofs.YtjmkmalgfanifaaGreatDoor
