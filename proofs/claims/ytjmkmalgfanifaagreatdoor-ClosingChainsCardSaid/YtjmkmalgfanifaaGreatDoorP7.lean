/- What the rows' condition says of the package variables. No condition. -/
import Derived.Test.YtjmkmalgfanifaaGreatDoorP6
import Derived.Test.YtjmkmalgfanifaaGreatDoorRows
import Derived.LaidMore
import Derived.LaidSub
import Derived.ChangeSame
import Derived.Lib.LaidTab
import Derived.Stop.LaidErr
import Derived.Test.YtjmkmalgfanifaaGreatDoorCards
import Derived.Test.YtjmkmalgfanifaaGreatDoorTie
import Derived.Test.YtjmkmalgfanifaaGreatDoorP5
import Derived.WalkKit
import Derived.ProofKit
import Derived.Deep.DeepHandedRow
set_option linter.all false
namespace Go.Proofs
open Go.Fs
noncomputable def tzC : Code := match Tryz.f14.body with | some c => c | none => .skip
noncomputable def tzx0 : Tr := (.node (.int .i64 0) (.node (.bool false) .leaf .leaf) .leaf)
noncomputable def tzx1 : Tr := (.node (.int .i64 24) (.node (.bool true) .leaf .leaf) .leaf)
noncomputable def tzx2 : Tr := (.node (.tuple #[.slice none 0 0, .int .i64 24]) .leaf .leaf)
noncomputable def tzx3 : Tr := (.node (.int .i64 0) (.node (.int .i64 0) .leaf .leaf) .leaf)
noncomputable def tzx4 : Tr := (.node (.bool false) (.node (.int .i64 0) .leaf .leaf) .leaf)
noncomputable def tzx5 : Tr := (.node (.string ⟨#[109, 105, 115, 115, 101, 100]⟩) .leaf .leaf)
noncomputable def tzx6 : Tr := (.node (.tuple #[.slice (some ⟨6, 0, none⟩) 4 0, .int .i64 0]) .leaf .leaf)
noncomputable def tzx7 : Tr := (.node (.tuple #[.slice (some ⟨15, 0, none⟩) 4 0, .int .i64 0]) .leaf .leaf)
noncomputable def tzx8 : Tr := (.node (.tuple #[.slice (some ⟨94, 0, none⟩) 4 0, .int .i64 0]) .leaf .leaf)
noncomputable def tzx9 : Tr := (.node (.tuple #[.slice (some ⟨68, 0, none⟩) 3 0, .int .i64 0]) .leaf .leaf)
noncomputable def tzx10 : Tr := (.node (.tuple #[.string ⟨#[107, 101, 112, 116]⟩, .int .i64 0]) .leaf .leaf)
noncomputable def tzx11 : Tr := (.node (.tuple #[.string ⟨#[111, 112, 101, 110]⟩, .int .i64 0]) .leaf .leaf)
noncomputable def tzx12 : Tr := (.node (.tuple #[.slice (some ⟨162, 0, none⟩) 4 0, .int .i64 0]) .leaf .leaf)
noncomputable def tzx13 : Tr := (.node (.tuple #[.slice (some ⟨119, 0, none⟩) 4 0, .int .i64 0]) .leaf .leaf)
noncomputable def tzx14 : Tr := (.node (.tuple #[.slice (some ⟨283, 0, none⟩) 2 0, .int .i64 0]) .leaf .leaf)
noncomputable def tzx15 : Tr := (.node (.tuple #[.slice (some ⟨248, 0, none⟩) 3 0, .int .i64 0]) .leaf .leaf)
noncomputable def tzx16 : Tr := (.node (.tuple #[.slice (some ⟨315, 0, none⟩) 2 0, .int .i64 0]) .leaf .leaf)
noncomputable def tzx17 : Tr := (.node (.tuple #[.slice (some ⟨590, 0, none⟩) 1 0, .int .i64 0]) .leaf .leaf)
noncomputable def tzx18 : Tr := (.node (.tuple #[.slice (some ⟨658, 0, none⟩) 3 0, .int .i64 0]) .leaf .leaf)
noncomputable def tzx19 : Tr := (.node (.tuple #[.agg #[.int .i64 6, .int .i64 11], .int .i64 0]) .leaf .leaf)
noncomputable def tzx20 : Tr := (.node (.slice (some ⟨72, 0, none⟩) 4 0) (.node (.bool true) .leaf .leaf) .leaf)
noncomputable def tzx21 : Tr := (.node (.slice (some ⟨68, 0, none⟩) 3 0) (.node (.bool false) .leaf .leaf) .leaf)
noncomputable def tzx22 : Tr := (.node (.int .i64 0) (.node (.slice (some ⟨68, 0, none⟩) 3 0) .leaf .leaf) .leaf)
noncomputable def tzx23 : Tr := (.node (.slice (some ⟨94, 0, none⟩) 4 0) (.node (.bool false) .leaf .leaf) .leaf)
noncomputable def tzx24 : Tr := (.node (.slice (some ⟨162, 0, none⟩) 4 0) (.node (.bool true) .leaf .leaf) .leaf)
noncomputable def tzx25 : Tr := (.node (.int .i64 0) (.node (.string ⟨#[107, 101, 112, 116]⟩) .leaf .leaf) .leaf)
noncomputable def tzx26 : Tr := (.node (.slice (some ⟨165, 0, none⟩) 4 0) (.node (.bool false) .leaf .leaf) .leaf)
noncomputable def tzx27 : Tr := (.node (.slice (some ⟨119, 0, none⟩) 4 0) (.node (.bool false) .leaf .leaf) .leaf)
noncomputable def tzx28 : Tr := (.node (.int .i64 0) (.node (.slice (some ⟨209, 0, none⟩) 4 0) .leaf .leaf) .leaf)
noncomputable def tzx29 : Tr := (.node (.slice (some ⟨168, 0, none⟩) 4 0) (.node (.bool false) .leaf .leaf) .leaf)
noncomputable def tzx30 : Tr := (.node (.bool false) (.node (.slice (some ⟨590, 0, none⟩) 1 0) .leaf .leaf) .leaf)
noncomputable def tzx31 : Tr := (.node (.slice none 0 0) (.node (.slice (some ⟨208, 0, none⟩) 4 0) .leaf .leaf) .leaf)
noncomputable def tzx32 : Tr := (.node (.tuple #[.string ⟨#[109, 105, 115, 115, 101, 100]⟩, .int .i64 0]) .leaf .leaf)
noncomputable def tzx33 : Tr := (.node (.bool false) (.node (.int .i64 0) .leaf .leaf) (.node (.bool true) .leaf .leaf))
noncomputable def tzx34 : Tr := (.node (.int .i64 0) (.node (.bool true) .leaf .leaf) (.node (.bool false) .leaf .leaf))
noncomputable def tzx35 : Tr := (.node (.tuple #[.slice none 0 0, .int .i64 24]) (.node (.bool false) .leaf .leaf) .leaf)
noncomputable def tzx36 : Tr := (.node (.int .i64 0) (.node (.bool false) .leaf .leaf) (.node (.int .i64 0) .leaf .leaf))
noncomputable def tzx37 : Tr := (.node (.int .i64 0) (.node (.bool false) .leaf .leaf) (.node (.bool false) .leaf .leaf))
noncomputable def tzx38 : Tr := (.node (.int .i64 24) (.node (.bool true) .leaf .leaf) (.node (.int .i64 0) .leaf .leaf))
noncomputable def tzx39 : Tr := (.node (.int .i64 0) (.node (.int .i64 0) .leaf .leaf) (.node (.bool false) .leaf .leaf))
noncomputable def tzx40 : Tr := (.node (.bool false) (.node (.int .i64 24) .leaf .leaf) (.node (.bool false) .leaf .leaf))
noncomputable def tzx41 : Tr := (.node (.bool false) (.node (.slice none 0 0) .leaf .leaf) (.node (.int .i64 6) .leaf .leaf))
noncomputable def tzx42 : Tr := (.node (.slice (some ⟨97, 0, none⟩) 4 0) (.node (.slice (some ⟨206, 0, none⟩) 4 0) .leaf .leaf) .leaf)
noncomputable def tzx43 : Tr := (.node (.tuple #[]) .leaf tzx7)
noncomputable def tzx44 : Tr := (.node (.tuple #[]) tzx8 .leaf)
noncomputable def tzx45 : Tr := (.node (.slice (some ⟨202, 0, none⟩) 4 0) (.node (.slice (some ⟨202, 0, none⟩) 4 0) .leaf .leaf) .leaf)
noncomputable def tzx46 : Tr := (.node (.slice (some ⟨128, 0, none⟩) 4 0) (.node (.slice (some ⟨119, 0, none⟩) 4 0) .leaf .leaf) .leaf)
noncomputable def tzx47 : Tr := (.node (.slice (some ⟨205, 0, none⟩) 3 0) (.node (.slice (some ⟨440, 0, none⟩) 3 0) .leaf .leaf) .leaf)
noncomputable def tzx48 : Tr := (.node (.tuple #[]) tzx13 .leaf)
noncomputable def tzx49 : Tr := (.node (.tuple #[.slice (some ⟨94, 0, none⟩) 4 0, .int .i64 0]) (.node (.bool false) .leaf .leaf) .leaf)
noncomputable def tzx50 : Tr := (.node (.tuple #[.slice (some ⟨119, 0, none⟩) 4 0, .int .i64 0]) (.node (.bool true) .leaf .leaf) .leaf)
noncomputable def tzx51 : Tr := (.node (.int .i64 0) tzx10 .leaf)
noncomputable def tzx52 : Tr := (.node (.bool false) tzx11 .leaf)
noncomputable def tzx53 : Tr := (.node (.bool true) tzx17 .leaf)
noncomputable def tzx54 : Tr := (.node (.tuple #[]) .leaf tzx19)
noncomputable def tzx55 : Tr := (.node (.tuple #[.slice (some ⟨202, 0, none⟩) 4 0, .int .i64 0]) (.node (.bool false) .leaf .leaf) .leaf)
noncomputable def tzx56 : Tr := (.node (.tuple #[.slice (some ⟨162, 0, none⟩) 4 0, .int .i64 0]) (.node (.bool false) .leaf .leaf) .leaf)
noncomputable def tzx57 : Tr := (.node (.int .i64 0) (.node (.string ⟨#[107, 101, 112, 116]⟩) .leaf .leaf) (.node (.bool false) .leaf .leaf))
noncomputable def tzx58 : Tr := (.node (.bool true) (.node (.slice (some ⟨225, 0, none⟩) 4 0) .leaf .leaf) (.node (.bool false) .leaf .leaf))
noncomputable def tzx59 : Tr := (.node (.int .i64 0) (.node (.bool false) .leaf .leaf) (.node (.string ⟨#[107, 101, 112, 116]⟩) .leaf .leaf))
noncomputable def tzx60 : Tr := (.node (.slice (some ⟨162, 0, none⟩) 4 0) (.node (.bool true) .leaf .leaf) (.node (.int .i64 0) .leaf .leaf))
noncomputable def tzx61 : Tr := (.node (.tuple #[.slice none 0 0, .int .i64 24]) (.node (.slice (some ⟨162, 0, none⟩) 4 0) .leaf .leaf) .leaf)
noncomputable def tzx62 : Tr := (.node (.int .i64 0) (.node (.slice (some ⟨213, 0, none⟩) 4 0) .leaf .leaf) (.node (.bool false) .leaf .leaf))
noncomputable def tzx63 : Tr := (.node (.slice (some ⟨165, 0, none⟩) 4 0) (.node (.bool false) .leaf .leaf) (.node (.int .i64 0) .leaf .leaf))
noncomputable def tzx64 : Tr := (.node (.slice (some ⟨119, 0, none⟩) 4 0) (.node (.bool false) .leaf .leaf) (.node (.int .i64 0) .leaf .leaf))
noncomputable def tzx65 : Tr := (.node (.int .i64 0) (.node (.slice (some ⟨209, 0, none⟩) 4 0) .leaf .leaf) (.node (.bool false) .leaf .leaf))
noncomputable def tzx66 : Tr := (.node (.int .i64 0) (.node (.slice (some ⟨217, 0, none⟩) 4 0) .leaf .leaf) (.node (.bool false) .leaf .leaf))
noncomputable def tzx67 : Tr := (.node (.bool false) (.node (.slice (some ⟨220, 0, none⟩) 4 0) .leaf .leaf) (.node (.bool false) .leaf .leaf))
noncomputable def tzx68 : Tr := (.node (.slice (some ⟨168, 0, none⟩) 4 0) (.node (.bool false) .leaf .leaf) (.node (.bool false) .leaf .leaf))
noncomputable def tzx69 : Tr := (.node (.int .i64 0) (.node (.slice (some ⟨212, 0, none⟩) 4 0) .leaf .leaf) (.node (.bool false) .leaf .leaf))
noncomputable def tzx70 : Tr := (.node (.bool false) (.node (.int .i64 0) .leaf .leaf) (.node (.slice (some ⟨315, 0, none⟩) 2 0) .leaf .leaf))
noncomputable def tzx71 : Tr := (.node (.int .i64 24) (.node (.slice (some ⟨221, 0, none⟩) 4 0) .leaf .leaf) (.node (.bool false) .leaf .leaf))
noncomputable def tzx72 : Tr := (.node (.slice none 0 0) (.node (.slice (some ⟨208, 0, none⟩) 4 0) .leaf .leaf) (.node (.int .i64 0) .leaf .leaf))
noncomputable def tzx73 : Tr := (.node (.bool true) tzx2 (.node (.bool false) .leaf .leaf))
noncomputable def tzx74 : Tr := (.node (.tuple #[.slice none 0 0, .int .i64 24]) (.node (.bool false) .leaf .leaf) (.node (.int .i64 0) .leaf .leaf))
noncomputable def tzx75 : Tr := (.node (.int .i64 0) (.node (.int .i64 0) .leaf .leaf) tzx5)
noncomputable def tzx76 : Tr := (.node (.tuple #[.slice (some ⟨94, 0, none⟩) 4 0, .int .i64 0]) (.node (.slice (some ⟨205, 0, none⟩) 3 0) .leaf .leaf) .leaf)
noncomputable def tzx77 : Tr := (.node (.tuple #[.slice (some ⟨119, 0, none⟩) 4 0, .int .i64 0]) (.node (.slice (some ⟨94, 0, none⟩) 4 0) .leaf .leaf) .leaf)
noncomputable def tzx78 : Tr := (.node (.slice (some ⟨68, 0, none⟩) 3 0) tzx17 .leaf)
noncomputable def tzx79 : Tr := (.node (.tuple #[.slice (some ⟨162, 0, none⟩) 4 0, .int .i64 0]) (.node (.slice (some ⟨207, 0, none⟩) 4 0) .leaf .leaf) .leaf)
noncomputable def tzx80 : Tr := (.node (.slice (some ⟨72, 0, none⟩) 4 0) (.node (.bool true) .leaf .leaf) (.node (.slice (some ⟨283, 0, none⟩) 2 0) .leaf .leaf))
noncomputable def tzx81 : Tr := (.node (.agg #[.slice (some ⟨227, 0, none⟩) 2 0, .slice (some ⟨228, 0, none⟩) 2 0, .slice (some ⟨231, 0, none⟩) 2 0]) .leaf .leaf)
noncomputable def tzx82 : Tr := (.node (.slice (some ⟨97, 0, none⟩) 4 0) (.node (.slice (some ⟨206, 0, none⟩) 4 0) .leaf .leaf) (.node (.int .i64 6) .leaf .leaf))
noncomputable def tzx83 : Tr := (.node (.agg #[.slice (some ⟨233, 0, none⟩) 2 0, .slice (some ⟨234, 0, none⟩) 2 0, .slice (some ⟨237, 0, none⟩) 2 0]) .leaf .leaf)
noncomputable def tzx84 : Tr := (.node (.agg #[.slice (some ⟨285, 0, none⟩) 2 0, .slice (some ⟨286, 0, none⟩) 2 0, .slice (some ⟨289, 0, none⟩) 2 0]) .leaf .leaf)
noncomputable def tzx85 : Tr := (.node (.bool false) (.node (.string ⟨#[111, 112, 101, 110]⟩) .leaf .leaf) (.node (.slice (some ⟨290, 0, none⟩) 3 0) .leaf .leaf))
noncomputable def tzx86 : Tr := (.node (.agg #[.slice (some ⟨258, 0, none⟩) 2 0, .slice (some ⟨259, 0, none⟩) 2 0, .slice (some ⟨262, 0, none⟩) 2 0]) .leaf .leaf)
noncomputable def tzx87 : Tr := (.node (.int .i64 0) (.node (.slice (some ⟨216, 0, none⟩) 4 0) .leaf .leaf) (.node (.string ⟨#[111, 112, 101, 110]⟩) .leaf .leaf))
noncomputable def tzx88 : Tr := (.node (.slice (some ⟨203, 0, none⟩) 4 0) (.node (.slice (some ⟨224, 0, none⟩) 4 0) .leaf .leaf) (.node (.bool false) .leaf .leaf))
noncomputable def tzx89 : Tr := (.node (.slice (some ⟨128, 0, none⟩) 4 0) (.node (.slice (some ⟨119, 0, none⟩) 4 0) .leaf .leaf) (.node (.int .i64 0) .leaf .leaf))
noncomputable def tzx90 : Tr := (.node (.tuple #[.slice (some ⟨94, 0, none⟩) 4 0, .int .i64 0]) (.node (.bool false) .leaf .leaf) (.node (.int .i64 0) .leaf .leaf))
noncomputable def tzx91 : Tr := (.node (.int .i64 0) tzx10 (.node (.bool false) .leaf .leaf))
noncomputable def tzx92 : Tr := (.node (.bool false) tzx11 (.node (.bool false) .leaf .leaf))
noncomputable def tzx93 : Tr := (.node (.tuple #[.slice (some ⟨119, 0, none⟩) 4 0, .int .i64 0]) (.node (.bool true) .leaf .leaf) (.node (.int .i64 0) .leaf .leaf))
noncomputable def tzx94 : Tr := (.node (.slice (some ⟨202, 0, none⟩) 4 0) (.node (.slice (some ⟨202, 0, none⟩) 4 0) .leaf .leaf) (.node (.int .i64 24) .leaf .leaf))
noncomputable def tzx95 : Tr := (.node (.slice (some ⟨94, 0, none⟩) 4 0) (.node (.bool false) .leaf .leaf) (.node (.tuple #[.int .i64 6, .int .i64 0]) .leaf .leaf))
noncomputable def tzx96 : Tr := (.node (.tuple #[.slice (some ⟨202, 0, none⟩) 4 0, .int .i64 0]) (.node (.bool false) .leaf .leaf) (.node (.bool false) .leaf .leaf))
noncomputable def tzx97 : Tr := (.node (.tuple #[.slice (some ⟨162, 0, none⟩) 4 0, .int .i64 0]) (.node (.bool false) .leaf .leaf) (.node (.int .i64 0) .leaf .leaf))
noncomputable def tzx98 : Tr := (.node (.tuple #[.slice (some ⟨202, 0, none⟩) 4 0, .int .i64 0]) (.node (.bool false) .leaf .leaf) (.node (.int .i64 0) .leaf .leaf))
noncomputable def tzx99 : Tr := (.node (.bool false) tzx15 (.node (.bool false) .leaf .leaf))
noncomputable def tzx100 : Tr := (.node (.slice (some ⟨15, 0, none⟩) 4 0) tzx2 (.node (.bool false) .leaf .leaf))
noncomputable def tzx101 : Tr := (.node (.agg #[.int .i64 6, .int .i64 11]) (.node (.int .i64 0) (.node (.bool true) .leaf .leaf) .leaf) (.node (.bool false) .leaf .leaf))
noncomputable def tzx102 : Tr := (.node (.tuple #[.slice none 0 0, .int .i64 24]) (.node (.slice (some ⟨162, 0, none⟩) 4 0) .leaf .leaf) (.node (.int .i64 0) .leaf .leaf))
noncomputable def tzx103 : Tr := (.node (.int .i64 0) tzx0 (.node (.agg #[.int .i64 6, .int .i64 11]) .leaf .leaf))
noncomputable def tzx104 : Tr := (.node (.bool false) tzx5 (.node (.slice (some ⟨291, 0, none⟩) 2 0) .leaf .leaf))
noncomputable def tzx105 : Tr := (.node (.int .i64 0) tzx10 (.node (.string ⟨#[107, 101, 112, 116]⟩) .leaf .leaf))
noncomputable def tzx106 : Tr := (.node (.bool false) tzx11 (.node (.slice (some ⟨248, 0, none⟩) 3 0) .leaf .leaf))
noncomputable def tzx107 : Tr := (.node (.tuple #[.slice (some ⟨162, 0, none⟩) 4 0, .int .i64 0]) (.node (.slice (some ⟨207, 0, none⟩) 4 0) .leaf .leaf) (.node (.int .i64 0) .leaf .leaf))
noncomputable def tzx108 : Tr := (.node (.bool false) (.node (.slice (some ⟨248, 0, none⟩) 3 0) .leaf .leaf) tzx16)
noncomputable def tzx109 : Tr := (.node (.slice (some ⟨94, 0, none⟩) 4 0) tzx4 (.node (.tuple #[.int .i64 6, .int .i64 0]) .leaf .leaf))
noncomputable def tzx110 : Tr := (.node (.slice (some ⟨6, 0, none⟩) 4 0) tzx32 (.node (.bool false) .leaf .leaf))
noncomputable def tzx111 : Tr := (.node (.bool false) tzx32 (.node (.slice (some ⟨283, 0, none⟩) 2 0) .leaf .leaf))
noncomputable def tzx112 : Tr := (.node (.tuple #[.slice (some ⟨119, 0, none⟩) 4 0, .int .i64 0]) (.node (.slice (some ⟨94, 0, none⟩) 4 0) .leaf .leaf) (.node (.tuple #[.int .i64 6, .int .i64 0]) .leaf .leaf))
noncomputable def tzx113 : Tr := (.node (.agg #[.int .i64 6, .int .i64 11]) tzx15 (.node (.slice (some ⟨292, 0, none⟩) 3 0) .leaf .leaf))
noncomputable def tzx114 : Tr := (.node (.slice (some ⟨68, 0, none⟩) 3 0) tzx4 tzx14)
noncomputable def tzx115 : Tr := (.node (.tuple #[.slice (some ⟨94, 0, none⟩) 4 0, .int .i64 0]) tzx30 (.node (.int .i64 0) .leaf .leaf))
noncomputable def tzx116 : Tr := (.node (.tuple #[.slice (some ⟨68, 0, none⟩) 3 0, .int .i64 0]) tzx0 (.node (.agg #[.int .i64 6, .int .i64 11]) .leaf .leaf))
noncomputable def tzx117 : Tr := (.node (.int .i64 0) (.node (.bool false) .leaf .leaf) tzx84)
noncomputable def tzx118 : Tr := (.node (.tuple #[.slice (some ⟨94, 0, none⟩) 4 0, .int .i64 0]) (.node (.slice (some ⟨205, 0, none⟩) 3 0) .leaf .leaf) tzx14)
noncomputable def tzx119 : Tr := (.node (.slice (some ⟨72, 0, none⟩) 4 0) tzx53 (.node (.slice (some ⟨283, 0, none⟩) 2 0) .leaf .leaf))
noncomputable def tzx120 : Tr := (.node (.int .i64 0) (.node (.slice (some ⟨68, 0, none⟩) 3 0) .leaf .leaf) tzx86)
noncomputable def tzx121 : Tr := (.node (.slice (some ⟨204, 0, none⟩) 4 0) tzx81 (.node (.bool false) .leaf .leaf))
noncomputable def tzx122 : Tr := (.node (.tuple #[]) tzx36 tzx67)
noncomputable def tzx123 : Tr := (.node (.slice (some ⟨5, 0, none⟩) 4 0) tzx60 tzx33)
noncomputable def tzx124 : Tr := (.node (.int .i64 0) tzx80 tzx39)
noncomputable def tzx125 : Tr := (.node (.int .i64 0) tzx63 tzx58)
noncomputable def tzx126 : Tr := (.node (.tuple #[.slice (some ⟨15, 0, none⟩) 4 0, .int .i64 0]) tzx38 tzx33)
noncomputable def tzx127 : Tr := (.node (.tuple #[.slice (some ⟨94, 0, none⟩) 4 0, .int .i64 0]) tzx47 tzx14)
noncomputable def tzx128 : Tr := (.node (.agg #[.int .i64 6, .int .i64 11]) tzx83 tzx16)
noncomputable def tzx129 : Tr := (.node (.tuple #[]) tzx82 tzx57)
noncomputable def tzx130 : Tr := (.node (.tuple #[]) tzx64 tzx92)
noncomputable def tzx131 : Tr := (.node (.tuple #[]) tzx97 tzx71)
noncomputable def tzx132 : Tr := (.node (.agg #[.int .i64 6, .int .i64 11]) tzx34 tzx99)
noncomputable def tzx133 : Tr := (.node (.tuple #[.agg #[.int .i64 6, .int .i64 11], .int .i64 0]) tzx65 tzx40)
noncomputable def tzx134 : Tr := (.node (.slice (some ⟨23, 0, none⟩) 4 0) tzx94 tzx41)
noncomputable def tzx135 : Tr := (.node (.tuple #[]) tzx93 tzx75)
noncomputable def tzx136 : Tr := (.node (.int .i64 0) tzx78 tzx86)
noncomputable def tzx137 : Tr := (.node (.tuple #[.slice (some ⟨68, 0, none⟩) 3 0, .int .i64 0]) tzx69 tzx70)
noncomputable def tzx138 : Tr := (.node (.slice (some ⟨6, 0, none⟩) 4 0) tzx74 tzx88)
noncomputable def tzx139 : Tr := (.node (.slice (some ⟨14, 0, none⟩) 4 0) tzx72 tzx104)
noncomputable def tzx140 : Tr := (.node (.tuple #[]) tzx89 tzx106)
noncomputable def tzx141 : Tr := (.node (.slice (some ⟨15, 0, none⟩) 4 0) tzx98 tzx100)
noncomputable def tzx142 : Tr := (.node (.int .i64 0) tzx109 tzx87)
noncomputable def tzx143 : Tr := (.node (.int .i64 0) tzx119 tzx39)
noncomputable def tzx144 : Tr := (.node (.tuple #[.slice (some ⟨6, 0, none⟩) 4 0, .int .i64 0]) tzx36 tzx110)
noncomputable def tzx145 : Tr := (.node (.tuple #[.agg #[.int .i64 6, .int .i64 11], .int .i64 0]) tzx96 tzx73)
noncomputable def tzx146 : Tr := (.node (.tuple #[]) tzx117 tzx66)
noncomputable def tzx147 : Tr := (.node (.int .i64 6) tzx118 tzx57)
noncomputable def tzx148 : Tr := (.node (.slice (some ⟨27, 0, none⟩) 4 0) tzx91 tzx108)
noncomputable def tzx149 : Tr := (.node (.tuple #[]) tzx112 tzx91)
noncomputable def tzx150 : Tr := (.node (.slice (some ⟨283, 0, none⟩) 2 0) tzx114 tzx62)
noncomputable def tzx151 : Tr := (.node (.int .i64 0) tzx68 tzx121)
noncomputable def tzx152 : Tr := (.node (.tuple #[.slice (some ⟨6, 0, none⟩) 4 0, .int .i64 0]) tzx107 tzx85)
noncomputable def tzx153 : Tr := (.node (.tuple #[.slice (some ⟨68, 0, none⟩) 3 0, .int .i64 0]) tzx59 tzx113)
noncomputable def tzx154 : Tr := (.node (.slice (some ⟨315, 0, none⟩) 2 0) tzx115 tzx91)
noncomputable def tzx155 : Tr := (.node (.int .i64 0) tzx37 tzx128)
noncomputable def tzx156 : Tr := (.node (.tuple #[.slice (some ⟨15, 0, none⟩) 4 0, .int .i64 0]) tzx102 tzx111)
noncomputable def tzx157 : Tr := (.node (.int .i64 6) tzx127 tzx57)
noncomputable def tzx158 : Tr := (.node (.int .i64 0) tzx120 tzx105)
noncomputable def tzx159 : Tr := (.node (.int .i64 0) tzx136 tzx105)
noncomputable def tzx160 : Tr := (.node (.int .i64 0) tzx122 tzx132)
noncomputable def tzx161 : Tr := (.node (.int .i64 0) tzx123 tzx137)
noncomputable def tzx162 : Tr := (.node (.int .i64 0) tzx135 tzx134)
noncomputable def tzx163 : Tr := (.node (.int .i64 0) tzx142 tzx126)
noncomputable def tzx164 : Tr := (.node (.string ⟨#[109, 105, 115, 115, 101, 100]⟩) tzx130 tzx133)
noncomputable def tzx165 : Tr := (.node (.slice (some ⟨202, 0, none⟩) 4 0) tzx147 tzx125)
noncomputable def tzx166 : Tr := (.node (.string ⟨#[111, 112, 101, 110]⟩) tzx129 tzx145)
noncomputable def tzx167 : Tr := (.node (.int .i64 0) tzx124 tzx156)
noncomputable def tzx168 : Tr := (.node (.slice none 0 0) tzx131 tzx155)
noncomputable def tzx169 : Tr := (.node (.slice (some ⟨202, 0, none⟩) 4 0) tzx157 tzx125)
noncomputable def tzx170 : Tr := (.node (.string ⟨#[107, 101, 112, 116]⟩) tzx146 tzx141)
noncomputable def tzx171 : Tr := (.node (.slice none 0 0) tzx150 tzx144)
noncomputable def tzx172 : Tr := (.node (.int .i64 24) tzx140 tzx153)
noncomputable def tzx173 : Tr := (.node (.int .i64 0) tzx149 tzx151)
noncomputable def tzx174 : Tr := (.node (.int .i64 24) tzx158 tzx138)
noncomputable def tzx175 : Tr := (.node (.string ⟨#[107, 101, 112, 116]⟩) tzx154 tzx139)
noncomputable def tzx176 : Tr := (.node (.int .i64 0) tzx143 tzx156)
noncomputable def tzx177 : Tr := (.node (.slice (some ⟨248, 0, none⟩) 3 0) tzx152 tzx148)
noncomputable def tzx178 : Tr := (.node (.int .i64 24) tzx159 tzx138)
noncomputable def tzx179 : Tr := (.node (.int .i64 0) tzx167 tzx160)
noncomputable def tzx180 : Tr := (.node (.int .i64 0) tzx176 tzx160)
noncomputable def tzx181 : Tr := (.node (.slice (some ⟨94, 0, none⟩) 4 0) tzx165 tzx164)
noncomputable def tzx182 : Tr := (.node (.int .i64 0) tzx174 tzx162)
noncomputable def tzx183 : Tr := (.node (.int .i64 0) tzx163 tzx172)
noncomputable def tzx184 : Tr := (.node (.slice (some ⟨68, 0, none⟩) 3 0) tzx171 tzx166)
noncomputable def tzx185 : Tr := (.node (.slice (some ⟨119, 0, none⟩) 4 0) tzx175 tzx168)
noncomputable def tzK4 : List Nat := [24, 15, 6]
noncomputable def tzT4 : Tr := (.node (.bool false) (.node (.slice (some ⟨6, 0, none⟩) 4 0) (.node (.slice (some ⟨15, 0, none⟩) 4 0) (.node (.tuple #[]) (.node (.tuple #[]) .leaf tzx6) tzx54) (.node (.tuple #[]) (.node (.tuple #[]) .leaf (.node (.slice (some ⟨14, 0, none⟩) 4 0) .leaf .leaf)) (.node (.tuple #[]) .leaf (.node (.int .i64 0) .leaf .leaf)))) (.node (.pointer (some ⟨24, 0, none⟩)) (.node (.tuple #[]) (.node (.tuple #[]) .leaf (.node (.int .i64 0) .leaf .leaf)) tzx54) (.node (.tuple #[]) (.node (.tuple #[]) .leaf (.node (.slice (some ⟨15, 0, none⟩) 4 0) .leaf .leaf)) (.node (.tuple #[]) tzx6 .leaf)))) (.node (.int .i64 0) (.node (.int .i64 0) (.node (.tuple #[]) (.node (.tuple #[]) .leaf (.node (.slice (some ⟨6, 0, none⟩) 4 0) .leaf .leaf)) (.node (.tuple #[]) .leaf (.node (.slice (some ⟨23, 0, none⟩) 4 0) .leaf .leaf))) (.node (.tuple #[]) tzx43 .leaf)) (.node (.int .i64 0) (.node (.tuple #[]) tzx43 (.node (.tuple #[]) .leaf (.node (.agg #[.int .i64 6, .int .i64 11]) .leaf .leaf))) (.node (.tuple #[]) (.node (.tuple #[]) .leaf (.node (.int .i64 0) .leaf .leaf)) (.node (.tuple #[]) (.node (.slice (some ⟨5, 0, none⟩) 4 0) .leaf .leaf) .leaf)))))
noncomputable def tzF4 : Fr := ⟨tzT4, 318, []⟩
noncomputable def tzO4_0 : List (Nat × AObj) := [(24, .row 32 [.int .i64 6, .int .i64 11] true false), (15, .row 3 [.int .i64 0, .int .i64 0, .int .i64 6, .int .i64 9] true false), (6, .row 3 [.int .i64 0, .int .i64 0, .int .i64 2, .int .i64 5] true false), (1, .row 162 [.string ⟨#[107, 101, 112, 116]⟩, .func (.func 237) #[] #[], .string ⟨#[109, 105, 115, 115, 101, 100]⟩, .func (.func 238) #[] #[], .string ⟨#[111, 112, 101, 110]⟩, .func (.func 239) #[] #[]] false true), (2, .row 111 [.int .i64 (-1), .int .i64 0] false true)]
noncomputable def tzL4 : List (Nat × AObj) := tzO4_0
noncomputable def tzH4 : Heap := ⟨25, 3, tzL4⟩
noncomputable def tzK8 : List Nat := [162, 119, 94, 68, 24, 15, 6]
noncomputable def tzT8 : Tr := (.node (.bool false) (.node (.slice (some ⟨6, 0, none⟩) 4 0) (.node (.slice (some ⟨15, 0, none⟩) 4 0) (.node (.slice (some ⟨68, 0, none⟩) 3 0) (.node (.tuple #[]) (.node (.tuple #[]) (.node (.slice (some ⟨68, 0, none⟩) 3 0) .leaf .leaf) .leaf) (.node (.tuple #[.slice (some ⟨6, 0, none⟩) 4 0, .int .i64 0]) (.node (.int .i64 0) .leaf .leaf) .leaf)) (.node (.tuple #[]) (.node (.tuple #[]) (.node (.slice (some ⟨97, 0, none⟩) 4 0) .leaf .leaf) .leaf) tzx19)) (.node (.slice (some ⟨119, 0, none⟩) 4 0) (.node (.tuple #[]) tzx44 (.node (.slice (some ⟨14, 0, none⟩) 4 0) .leaf .leaf)) (.node (.tuple #[]) (.node (.tuple #[]) tzx12 .leaf) (.node (.int .i64 0) .leaf .leaf)))) (.node (.pointer (some ⟨24, 0, none⟩)) (.node (.slice (some ⟨94, 0, none⟩) 4 0) (.node (.tuple #[]) tzx44 (.node (.int .i64 0) .leaf .leaf)) (.node (.tuple #[]) (.node (.tuple #[]) (.node (.slice (some ⟨119, 0, none⟩) 4 0) .leaf .leaf) .leaf) tzx19)) (.node (.slice (some ⟨162, 0, none⟩) 4 0) (.node (.tuple #[]) (.node (.tuple #[]) (.node (.int .i64 0) .leaf .leaf) .leaf) (.node (.slice (some ⟨15, 0, none⟩) 4 0) .leaf .leaf)) (.node (.tuple #[]) (.node (.tuple #[.slice (some ⟨6, 0, none⟩) 4 0, .int .i64 0]) tzx12 .leaf) (.node (.slice (some ⟨27, 0, none⟩) 4 0) .leaf .leaf))))) (.node (.int .i64 0) (.node (.int .i64 0) (.node (.int .i64 0) (.node (.tuple #[]) (.node (.tuple #[]) (.node (.int .i64 0) .leaf .leaf) .leaf) (.node (.slice (some ⟨6, 0, none⟩) 4 0) .leaf .leaf)) (.node (.tuple #[]) tzx48 (.node (.slice (some ⟨23, 0, none⟩) 4 0) .leaf .leaf))) (.node (.int .i64 0) (.node (.tuple #[]) (.node (.tuple #[]) (.node (.slice (some ⟨94, 0, none⟩) 4 0) .leaf .leaf) .leaf) tzx7) (.node (.tuple #[]) (.node (.tuple #[]) (.node (.slice (some ⟨128, 0, none⟩) 4 0) .leaf .leaf) .leaf) tzx9))) (.node (.int .i64 0) (.node (.int .i64 0) (.node (.tuple #[]) (.node (.tuple #[]) (.node (.slice (some ⟨72, 0, none⟩) 4 0) .leaf .leaf) .leaf) tzx7) (.node (.tuple #[]) (.node (.tuple #[]) (.node (.int .i64 0) .leaf .leaf) .leaf) (.node (.agg #[.int .i64 6, .int .i64 11]) .leaf .leaf))) (.node (.int .i64 0) (.node (.tuple #[]) tzx48 (.node (.int .i64 0) .leaf .leaf)) (.node (.tuple #[]) (.node (.slice (some ⟨5, 0, none⟩) 4 0) (.node (.slice (some ⟨162, 0, none⟩) 4 0) .leaf .leaf) .leaf) tzx9)))))
noncomputable def tzF8 : Fr := ⟨tzT8, 318, []⟩
noncomputable def tzO8_0 : List (Nat × AObj) := [(162, .row 3 [.int .i64 8, .int .i64 8, .int .i64 11, .int .i64 12] true true), (119, .row 3 [.int .i64 3, .int .i64 1, .int .i64 1, .int .i64 1] true true), (94, .row 3 [.int .i64 3, .int .i64 1, .int .i64 7, .int .i64 10] true true), (68, .row 3 [.int .i64 1, .int .i64 2, .int .i64 3] true true)]
noncomputable def tzL8 : List (Nat × AObj) := tzO8_0 ++ tzL4
noncomputable def tzH8 : Heap := ⟨163, 3, tzL8⟩
noncomputable def tzK11 : List Nat := []
noncomputable def tzT11 : Tr := (.node (.bool false) (.node (.slice (some ⟨6, 0, none⟩) 4 0) (.node (.slice (some ⟨15, 0, none⟩) 4 0) (.node (.slice (some ⟨68, 0, none⟩) 3 0) (.node (.slice none 0 0) (.node (.tuple #[]) tzx21 (.node (.int .i64 0) .leaf .leaf)) (.node (.tuple #[.slice (some ⟨6, 0, none⟩) 4 0, .int .i64 0]) tzx0 (.node (.slice (some ⟨6, 0, none⟩) 4 0) .leaf .leaf))) (.node (.tuple #[]) (.node (.tuple #[]) tzx42 (.node (.int .i64 0) .leaf .leaf)) (.node (.tuple #[.agg #[.int .i64 6, .int .i64 11], .int .i64 0]) tzx55 (.node (.bool true) .leaf .leaf)))) (.node (.slice (some ⟨119, 0, none⟩) 4 0) (.node (.tuple #[]) (.node (.tuple #[]) tzx49 (.node (.int .i64 0) .leaf .leaf)) (.node (.slice (some ⟨14, 0, none⟩) 4 0) tzx31 (.node (.bool false) .leaf .leaf))) (.node (.tuple #[]) (.node (.tuple #[]) tzx56 (.node (.int .i64 24) .leaf .leaf)) tzx103))) (.node (.pointer (some ⟨24, 0, none⟩)) (.node (.slice (some ⟨94, 0, none⟩) 4 0) (.node (.slice (some ⟨202, 0, none⟩) 4 0) (.node (.tuple #[]) tzx76 (.node (.int .i64 0) .leaf .leaf)) (.node (.int .i64 0) tzx26 (.node (.bool true) .leaf .leaf))) (.node (.tuple #[]) (.node (.tuple #[]) tzx27 (.node (.bool false) .leaf .leaf)) (.node (.tuple #[.agg #[.int .i64 6, .int .i64 11], .int .i64 0]) tzx28 (.node (.bool false) .leaf .leaf)))) (.node (.slice (some ⟨162, 0, none⟩) 4 0) (.node (.tuple #[]) (.node (.tuple #[]) tzx0 (.node (.int .i64 0) .leaf .leaf)) (.node (.slice (some ⟨15, 0, none⟩) 4 0) tzx55 (.node (.slice (some ⟨15, 0, none⟩) 4 0) .leaf .leaf))) (.node (.tuple #[]) (.node (.tuple #[.slice (some ⟨6, 0, none⟩) 4 0, .int .i64 0]) tzx79 (.node (.bool false) .leaf .leaf)) (.node (.slice (some ⟨27, 0, none⟩) 4 0) (.node (.int .i64 0) .leaf .leaf) (.node (.bool false) .leaf .leaf)))))) (.node (.int .i64 0) (.node (.int .i64 0) (.node (.int .i64 0) (.node (.int .i64 24) (.node (.tuple #[]) tzx22 (.node (.int .i64 0) .leaf .leaf)) (.node (.slice (some ⟨6, 0, none⟩) 4 0) tzx35 (.node (.slice (some ⟨203, 0, none⟩) 4 0) .leaf .leaf))) (.node (.tuple #[]) (.node (.tuple #[]) tzx50 (.node (.int .i64 0) .leaf .leaf)) (.node (.slice (some ⟨23, 0, none⟩) 4 0) tzx45 (.node (.bool false) .leaf .leaf)))) (.node (.int .i64 0) (.node (.tuple #[]) (.node (.tuple #[]) tzx23 (.node (.int .i64 0) .leaf .leaf)) (.node (.tuple #[.slice (some ⟨15, 0, none⟩) 4 0, .int .i64 0]) tzx1 (.node (.bool false) .leaf .leaf))) (.node (.tuple #[]) (.node (.tuple #[]) tzx46 (.node (.bool false) .leaf .leaf)) tzx116))) (.node (.int .i64 0) (.node (.int .i64 0) (.node (.int .i64 0) (.node (.tuple #[]) tzx20 (.node (.int .i64 0) .leaf .leaf)) (.node (.tuple #[.slice (some ⟨15, 0, none⟩) 4 0, .int .i64 0]) tzx61 (.node (.bool false) .leaf .leaf))) (.node (.tuple #[]) (.node (.tuple #[]) tzx0 (.node (.bool false) .leaf .leaf)) tzx101)) (.node (.int .i64 0) (.node (.tuple #[]) (.node (.tuple #[]) tzx77 (.node (.int .i64 0) .leaf .leaf)) (.node (.int .i64 0) tzx29 (.node (.slice (some ⟨204, 0, none⟩) 4 0) .leaf .leaf))) (.node (.tuple #[]) (.node (.slice (some ⟨5, 0, none⟩) 4 0) tzx24 (.node (.bool false) .leaf .leaf)) (.node (.tuple #[.slice (some ⟨68, 0, none⟩) 3 0, .int .i64 0]) (.node (.int .i64 0) .leaf .leaf) (.node (.bool false) .leaf .leaf)))))))
noncomputable def tzF11 : Fr := ⟨tzT11, 318, []⟩
noncomputable def tzO11_0 : List (Nat × AObj) := [(1, .row 162 [.string ⟨#[107, 101, 112, 116]⟩, .func (.func 237) #[] #[], .string ⟨#[109, 105, 115, 115, 101, 100]⟩, .func (.func 238) #[] #[], .string ⟨#[111, 112, 101, 110]⟩, .func (.func 239) #[] #[]] false true), (2, .row 111 [.int .i64 (-1), .int .i64 0] false true)]
noncomputable def tzL11 : List (Nat × AObj) := tzO11_0
noncomputable def tzH11 : Heap := ⟨210, 3, tzL11⟩
noncomputable def tzK16 : List Nat := []
noncomputable def tzT16 : Tr := (.node (.bool false) (.node (.slice (some ⟨6, 0, none⟩) 4 0) (.node (.slice (some ⟨15, 0, none⟩) 4 0) (.node (.slice (some ⟨68, 0, none⟩) 3 0) (.node (.slice none 0 0) (.node (.tuple #[]) tzx21 (.node (.int .i64 0) (.node (.slice (some ⟨213, 0, none⟩) 4 0) .leaf .leaf) .leaf)) (.node (.tuple #[.slice (some ⟨6, 0, none⟩) 4 0, .int .i64 0]) tzx0 (.node (.slice (some ⟨6, 0, none⟩) 4 0) tzx32 .leaf))) (.node (.string ⟨#[111, 112, 101, 110]⟩) (.node (.tuple #[]) tzx42 tzx25) (.node (.tuple #[.agg #[.int .i64 6, .int .i64 11], .int .i64 0]) tzx55 (.node (.bool true) tzx2 .leaf)))) (.node (.slice (some ⟨119, 0, none⟩) 4 0) (.node (.string ⟨#[107, 101, 112, 116]⟩) (.node (.tuple #[]) tzx49 tzx51) (.node (.slice (some ⟨14, 0, none⟩) 4 0) tzx31 (.node (.bool false) tzx5 .leaf))) (.node (.slice none 0 0) (.node (.tuple #[]) tzx56 (.node (.int .i64 24) (.node (.slice (some ⟨221, 0, none⟩) 4 0) .leaf .leaf) .leaf)) tzx103))) (.node (.pointer (some ⟨24, 0, none⟩)) (.node (.slice (some ⟨94, 0, none⟩) 4 0) (.node (.slice (some ⟨202, 0, none⟩) 4 0) (.node (.tuple #[]) tzx76 tzx25) (.node (.int .i64 0) tzx26 (.node (.bool true) (.node (.slice (some ⟨225, 0, none⟩) 4 0) .leaf .leaf) .leaf))) (.node (.string ⟨#[109, 105, 115, 115, 101, 100]⟩) (.node (.tuple #[]) tzx27 tzx52) (.node (.tuple #[.agg #[.int .i64 6, .int .i64 11], .int .i64 0]) tzx28 (.node (.bool false) (.node (.int .i64 24) .leaf .leaf) .leaf)))) (.node (.slice (some ⟨162, 0, none⟩) 4 0) (.node (.string ⟨#[107, 101, 112, 116]⟩) (.node (.tuple #[]) tzx0 (.node (.int .i64 0) (.node (.slice (some ⟨217, 0, none⟩) 4 0) .leaf .leaf) .leaf)) (.node (.slice (some ⟨15, 0, none⟩) 4 0) tzx55 (.node (.slice (some ⟨15, 0, none⟩) 4 0) tzx2 .leaf))) (.node (.tuple #[]) (.node (.tuple #[.slice (some ⟨6, 0, none⟩) 4 0, .int .i64 0]) tzx79 (.node (.bool false) (.node (.string ⟨#[111, 112, 101, 110]⟩) .leaf .leaf) .leaf)) (.node (.slice (some ⟨27, 0, none⟩) 4 0) tzx51 (.node (.bool false) .leaf .leaf)))))) (.node (.int .i64 0) (.node (.int .i64 0) (.node (.int .i64 0) (.node (.int .i64 24) (.node (.tuple #[]) tzx22 tzx51) (.node (.slice (some ⟨6, 0, none⟩) 4 0) tzx35 (.node (.slice (some ⟨203, 0, none⟩) 4 0) (.node (.slice (some ⟨224, 0, none⟩) 4 0) .leaf .leaf) .leaf))) (.node (.int .i64 0) (.node (.tuple #[]) tzx50 tzx3) (.node (.slice (some ⟨23, 0, none⟩) 4 0) tzx45 (.node (.bool false) (.node (.slice none 0 0) .leaf .leaf) .leaf)))) (.node (.int .i64 0) (.node (.int .i64 0) (.node (.tuple #[]) tzx23 (.node (.int .i64 0) (.node (.slice (some ⟨216, 0, none⟩) 4 0) .leaf .leaf) .leaf)) (.node (.tuple #[.slice (some ⟨15, 0, none⟩) 4 0, .int .i64 0]) tzx1 tzx4)) (.node (.int .i64 24) (.node (.tuple #[]) tzx46 tzx52) tzx116))) (.node (.int .i64 0) (.node (.int .i64 0) (.node (.int .i64 0) (.node (.tuple #[]) tzx20 tzx3) (.node (.tuple #[.slice (some ⟨15, 0, none⟩) 4 0, .int .i64 0]) tzx61 (.node (.bool false) tzx32 .leaf))) (.node (.int .i64 0) (.node (.tuple #[]) tzx0 (.node (.bool false) (.node (.slice (some ⟨220, 0, none⟩) 4 0) .leaf .leaf) .leaf)) tzx101)) (.node (.int .i64 0) (.node (.int .i64 0) (.node (.tuple #[]) tzx77 tzx51) (.node (.int .i64 0) tzx29 (.node (.slice (some ⟨204, 0, none⟩) 4 0) tzx81 .leaf))) (.node (.tuple #[]) (.node (.slice (some ⟨5, 0, none⟩) 4 0) tzx24 tzx4) (.node (.tuple #[.slice (some ⟨68, 0, none⟩) 3 0, .int .i64 0]) (.node (.int .i64 0) (.node (.slice (some ⟨212, 0, none⟩) 4 0) .leaf .leaf) .leaf) (.node (.bool false) .leaf .leaf)))))))
noncomputable def tzF16 : Fr := ⟨tzT16, 318, []⟩
noncomputable def tzL16 : List (Nat × AObj) := tzL11
noncomputable def tzH16 : Heap := ⟨232, 3, tzL16⟩
noncomputable def tzK20 : List Nat := []
noncomputable def tzT20 : Tr := (.node (.bool false) (.node (.slice (some ⟨6, 0, none⟩) 4 0) (.node (.slice (some ⟨15, 0, none⟩) 4 0) (.node (.slice (some ⟨68, 0, none⟩) 3 0) (.node (.slice none 0 0) (.node (.slice (some ⟨283, 0, none⟩) 2 0) (.node (.slice (some ⟨68, 0, none⟩) 3 0) (.node (.bool false) .leaf .leaf) tzx14) tzx62) tzx144) tzx166) (.node (.slice (some ⟨119, 0, none⟩) 4 0) (.node (.string ⟨#[107, 101, 112, 116]⟩) (.node (.tuple #[]) tzx90 tzx91) tzx139) (.node (.slice none 0 0) tzx131 (.node (.int .i64 0) tzx37 (.node (.agg #[.int .i64 6, .int .i64 11]) tzx83 .leaf))))) (.node (.pointer (some ⟨24, 0, none⟩)) tzx181 (.node (.slice (some ⟨162, 0, none⟩) 4 0) tzx170 (.node (.slice (some ⟨248, 0, none⟩) 3 0) tzx152 (.node (.slice (some ⟨27, 0, none⟩) 4 0) tzx91 (.node (.bool false) (.node (.slice (some ⟨248, 0, none⟩) 3 0) .leaf .leaf) .leaf)))))) (.node (.int .i64 0) (.node (.int .i64 0) tzx182 (.node (.int .i64 0) (.node (.int .i64 0) (.node (.tuple #[]) tzx95 tzx87) tzx126) (.node (.int .i64 24) tzx140 (.node (.tuple #[.slice (some ⟨68, 0, none⟩) 3 0, .int .i64 0]) tzx59 (.node (.agg #[.int .i64 6, .int .i64 11]) tzx15 .leaf))))) (.node (.int .i64 0) tzx179 (.node (.int .i64 0) tzx173 (.node (.int .i64 0) tzx123 (.node (.tuple #[.slice (some ⟨68, 0, none⟩) 3 0, .int .i64 0]) tzx69 tzx4))))))
noncomputable def tzF20 : Fr := ⟨tzT20, 318, []⟩
noncomputable def tzL20 : List (Nat × AObj) := tzL16
noncomputable def tzH20 : Heap := ⟨292, 3, tzL20⟩
noncomputable def tzK21 : List Nat := [315]
noncomputable def tzT21 : Tr := (.node (.bool false) (.node (.slice (some ⟨6, 0, none⟩) 4 0) (.node (.slice (some ⟨15, 0, none⟩) 4 0) tzx184 (.node (.slice (some ⟨119, 0, none⟩) 4 0) (.node (.string ⟨#[107, 101, 112, 116]⟩) (.node (.slice (some ⟨315, 0, none⟩) 2 0) tzx90 tzx91) tzx139) tzx168)) (.node (.pointer (some ⟨24, 0, none⟩)) tzx181 (.node (.slice (some ⟨162, 0, none⟩) 4 0) tzx170 tzx177))) (.node (.int .i64 0) (.node (.int .i64 0) tzx182 (.node (.int .i64 0) (.node (.int .i64 0) (.node (.int .i64 0) tzx95 tzx87) tzx126) tzx172)) (.node (.int .i64 0) tzx179 (.node (.int .i64 0) tzx173 tzx161))))
noncomputable def tzF21 : Fr := ⟨tzT21, 318, []⟩
noncomputable def tzO21_0 : List (Nat × AObj) := [(315, .row 111 [.int .i64 0, .int .i64 0, .int .i64 1, .int .i64 5] true true)]
noncomputable def tzL21 : List (Nat × AObj) := tzO21_0 ++ tzL20
noncomputable def tzH21 : Heap := ⟨440, 3, tzL21⟩
noncomputable def tzK22 : List Nat := [590, 315]
noncomputable def tzT22 : Tr := (.node (.bool false) (.node (.slice (some ⟨6, 0, none⟩) 4 0) (.node (.slice (some ⟨15, 0, none⟩) 4 0) tzx184 tzx185) (.node (.pointer (some ⟨24, 0, none⟩)) (.node (.slice (some ⟨94, 0, none⟩) 4 0) tzx169 tzx164) (.node (.slice (some ⟨162, 0, none⟩) 4 0) (.node (.string ⟨#[107, 101, 112, 116]⟩) (.node (.slice (some ⟨590, 0, none⟩) 1 0) tzx117 tzx66) tzx141) tzx177))) (.node (.int .i64 0) (.node (.int .i64 0) (.node (.int .i64 0) tzx178 tzx162) tzx183) (.node (.int .i64 0) tzx180 (.node (.int .i64 0) (.node (.int .i64 0) (.node (.int .i64 0) tzx112 tzx91) tzx151) tzx161))))
noncomputable def tzF22 : Fr := ⟨tzT22, 318, []⟩
noncomputable def tzO22_0 : List (Nat × AObj) := [(590, .row 3 [.int .i64 2] true true)]
noncomputable def tzL22 : List (Nat × AObj) := tzO22_0 ++ tzL21
noncomputable def tzH22 : Heap := ⟨591, 3, tzL22⟩
noncomputable def tzK23 : List Nat := [658, 590, 315]
noncomputable def tzT23 : Tr := (.node (.bool false) (.node (.slice (some ⟨6, 0, none⟩) 4 0) (.node (.slice (some ⟨15, 0, none⟩) 4 0) (.node (.slice (some ⟨68, 0, none⟩) 3 0) tzx171 (.node (.string ⟨#[111, 112, 101, 110]⟩) (.node (.slice (some ⟨658, 0, none⟩) 3 0) (.node (.slice (some ⟨97, 0, none⟩) 4 0) (.node (.slice (some ⟨206, 0, none⟩) 4 0) tzx18 .leaf) (.node (.int .i64 6) .leaf .leaf)) tzx57) tzx145)) tzx185) (.node (.pointer (some ⟨24, 0, none⟩)) (.node (.slice (some ⟨94, 0, none⟩) 4 0) tzx169 (.node (.string ⟨#[109, 105, 115, 115, 101, 100]⟩) (.node (.tuple #[]) (.node (.slice (some ⟨119, 0, none⟩) 4 0) tzx4 (.node (.int .i64 0) .leaf .leaf)) tzx92) tzx133)) (.node (.slice (some ⟨162, 0, none⟩) 4 0) (.node (.string ⟨#[107, 101, 112, 116]⟩) (.node (.slice (some ⟨590, 0, none⟩) 1 0) (.node (.int .i64 0) (.node (.bool false) tzx18 .leaf) tzx84) tzx66) tzx141) tzx177))) (.node (.int .i64 0) (.node (.int .i64 0) (.node (.int .i64 0) tzx178 (.node (.int .i64 0) (.node (.int .i64 0) (.node (.tuple #[.slice (some ⟨119, 0, none⟩) 4 0, .int .i64 0]) (.node (.bool true) (.node (.slice (some ⟨658, 0, none⟩) 3 0) .leaf .leaf) .leaf) (.node (.int .i64 0) .leaf .leaf)) tzx75) tzx134)) tzx183) (.node (.int .i64 0) tzx180 (.node (.int .i64 0) (.node (.int .i64 0) (.node (.int .i64 0) (.node (.tuple #[.slice (some ⟨119, 0, none⟩) 4 0, .int .i64 0]) (.node (.slice (some ⟨94, 0, none⟩) 4 0) (.node (.slice (some ⟨591, 0, none⟩) 3 0) .leaf .leaf) .leaf) (.node (.tuple #[.int .i64 6, .int .i64 0]) .leaf .leaf)) tzx91) tzx151) tzx161))))
noncomputable def tzF23 : Fr := ⟨tzT23, 318, []⟩
noncomputable def tzO23_0 : List (Nat × AObj) := [(658, .row 111 [.int .i64 0, .int .i64 0, .int .i64 2, .int .i64 4, .int .i64 1, .int .i64 8] true true)]
noncomputable def tzL23 : List (Nat × AObj) := tzO23_0 ++ tzL22
noncomputable def tzH23 : Heap := ⟨829, 3, tzL23⟩
end Go.Proofs
namespace Go.Proofs
open Go.Fs
theorem tzP4 : (runPre Tryz.prog OB 4 100000 (tzC) ⟨fillTr .leaf 0 [], Tryz.f14.ntmps, []⟩ (gHeap 3 tzG)).map (fun x => (x.1, x.2.1, x.2.2.1, gcH 3 tzK4 x.2.2.2)) = some (99996, sufx 4 tzC, tzF4, tzH4) := by kernel_rfl
end Go.Proofs
namespace Go.Proofs
open Go.Fs
theorem tzP8 : (runPre Tryz.prog OB 4 99996 (sufx 4 tzC) tzF4 tzH4).map (fun x => (x.1, x.2.1, x.2.2.1, gcH 3 tzK8 x.2.2.2)) = some (99992, sufx 8 tzC, tzF8, tzH8) := by kernel_rfl
end Go.Proofs
namespace Go.Proofs
open Go.Fs
theorem tzP11 : (runPre Tryz.prog OB 3 99992 (sufx 8 tzC) tzF8 tzH8).map (fun x => (x.1, x.2.1, x.2.2.1, gcH 3 tzK11 x.2.2.2)) = some (99989, sufx 11 tzC, tzF11, tzH11) := by kernel_rfl
end Go.Proofs
namespace Go.Proofs
open Go.Fs
theorem tzP16 : (runPre Tryz.prog OB 5 99989 (sufx 11 tzC) tzF11 tzH11).map (fun x => (x.1, x.2.1, x.2.2.1, gcH 3 tzK16 x.2.2.2)) = some (99984, sufx 16 tzC, tzF16, tzH16) := by kernel_rfl
end Go.Proofs
namespace Go.Proofs
open Go.Fs
theorem tzP20 : (runPre Tryz.prog OB 4 99984 (sufx 16 tzC) tzF16 tzH16).map (fun x => (x.1, x.2.1, x.2.2.1, gcH 3 tzK20 x.2.2.2)) = some (99980, sufx 20 tzC, tzF20, tzH20) := by kernel_rfl
end Go.Proofs
namespace Go.Proofs
open Go.Fs
theorem tzP21 : (runPre Tryz.prog OB 1 99980 (sufx 20 tzC) tzF20 tzH20).map (fun x => (x.1, x.2.1, x.2.2.1, gcH 3 tzK21 x.2.2.2)) = some (99979, sufx 21 tzC, tzF21, tzH21) := by kernel_rfl
end Go.Proofs
namespace Go.Proofs
open Go.Fs
theorem tzP22 : (runPre Tryz.prog OB 1 99979 (sufx 21 tzC) tzF21 tzH21).map (fun x => (x.1, x.2.1, x.2.2.1, gcH 3 tzK22 x.2.2.2)) = some (99978, sufx 22 tzC, tzF22, tzH22) := by kernel_rfl
end Go.Proofs
namespace Go.Proofs
open Go.Fs
theorem tzP23 : (runPre Tryz.prog OB 1 99978 (sufx 22 tzC) tzF22 tzH22).map (fun x => (x.1, x.2.1, x.2.2.1, gcH 3 tzK23 x.2.2.2)) = some (99977, sufx 23 tzC, tzF23, tzH23) := by kernel_rfl
end Go.Proofs
namespace Go.Proofs
open Go.Fs
theorem tzPe : (fsCodeX Tryz.prog OB 99977 none (sufx 23 tzC) tzF23 tzH23).bind (endV Tryz.prog Tryz.f14 (gHeap 3 tzG)) = some (.bool true) := by kernel_rfl
end Go.Proofs
namespace Go.Proofs
open Go.Fs
noncomputable def tzKs : List (Nat × List Nat) := [(4, tzK4), (4, tzK8), (3, tzK11), (5, tzK16), (4, tzK20), (1, tzK21), (1, tzK22), (1, tzK23)]
theorem tzRun : (fsEnter Tryz.prog (fsG Tryz.prog OB 3 100000 tzKs) 14 [] (gHeap 3 tzG)).map (·.1) = some (.bool true) := by
  rw [enter_map (c := tzC) Tryz.func14 rfl (by rfl)]; rw [fsG_eq (by kernel_rfl) (by kernel_rfl)]; unfold tzKs; show (runG Tryz.prog OB 3 _ 100000 tzC ⟨fillTr .leaf 0 [], Tryz.f14.ntmps, []⟩ (gHeap 3 tzG)).bind _ = _; rw [run_viaG tzP4]; rw [run_viaG tzP8]; rw [run_viaG tzP11]; rw [run_viaG tzP16]; rw [run_viaG tzP20]; rw [run_viaG tzP21]; rw [run_viaG tzP22]; rw [run_viaG tzP23]; exact tzPe
end Go.Proofs
namespace Go.Proofs.YtjmkmalgfanifaaGreatDoor
open Go.ChangeShapes Go.RowKit Go.Fs
def laid5 : List (String × DataW Unit) := [("math/bits.deBruijn32tab", Rows.laid_math_bits_deBruijn32tab), ("math/bits.deBruijn64tab", Rows.laid_math_bits_deBruijn64tab), ("internal/strconv.uint64pow10", Rows.laid_internal_strconv_uint64pow10), ("tideway/closing.nobody", Rows.laid_tideway_closing_nobody), ("tideway/closing.verdicts", Rows.laid_tideway_closing_verdicts)]
def laid4 : List (String × DataW Unit) := [("math/bits.deBruijn32tab", Rows.laid_math_bits_deBruijn32tab), ("math/bits.deBruijn64tab", Rows.laid_math_bits_deBruijn64tab), ("internal/strconv.uint64pow10", Rows.laid_internal_strconv_uint64pow10), ("tideway/closing.nobody", Rows.laid_tideway_closing_nobody)]
theorem laid4_eq : laid5.filter (fun x => x.2.handleName?.isNone) = laid4 := by rfl
theorem laid_plain {W : World} (h : laidMetH Tryz.prog laid5 W) : laidMet Tryz.prog laid4 W := by
  have := (laidMetH_iff.1 h).1
  rwa [laid4_eq] at this
theorem gPow : ∃ g : Nat, Tryz.prog.globalNamed "internal/strconv.uint64pow10" = some g ∧ (Tryz.prog.globals[g]?).map (·.type) = some 252 := ⟨2, by kernel_rfl, by kernel_rfl⟩
theorem powTab {W : World} (h : laidMetH Tryz.prog laid5 W) : Lib.TabIs Tryz.prog W "internal/strconv.uint64pow10" .u64 Lib.pow10Tab := by
  obtain ⟨g, h1, h2⟩ := gPow; exact Lib.tabIs_of_head h1 h2 Tryz.underlying252 Tryz.underlying227 (by kernel_rfl) (by kernel_rfl) (laidMet.tail (laidMet.tail (laid_plain h)))
theorem gNob : Tryz.prog.globalNamed "tideway/closing.nobody" = some 1 := by kernel_rfl
theorem gVer : Tryz.prog.globalNamed "tideway/closing.verdicts" = some 0 := by kernel_rfl
theorem tNob : (Tryz.prog.globals[1]?).map (·.type) = some 111 := by kernel_rfl
theorem tVer : (Tryz.prog.globals[0]?).map (·.type) = some 162 := by kernel_rfl
theorem var_lt {P : Program} {w : World} {n : String} {g : Nat} {cs : Array Value} (hg : P.globalNamed n = some g) (h : w.var? P n = some cs) : g < w.heap.size := by
  simp only [World.var?, hg, Option.bind_some] at h; by_cases hl : g < w.heap.size
  · exact hl
  · rw [Array.getElem?_eq_none (by omega)] at h; cases h
theorem only_of {P : Program} {t : TypeId} {k : Nat} (h : ((List.range P.globals.size).all fun g => (match P.globals[g]? with | some gl => !(Nat.beq gl.type t) | none => true) || Nat.beq g k) = true) : ∀ (g : Nat) gl, P.globals[g]? = some gl → gl.type = t → g = k := fun g gl hg ht => by
  have hl : g < P.globals.size := by
    by_cases hl : g < P.globals.size
    · exact hl
    · rw [Array.getElem?_eq_none (by omega)] at hg; cases hg
  have := List.all_eq_true.1 h g (List.mem_range.2 hl); rw [hg] at this; simp only [ht] at this; have e : Nat.beq t t = true := Nat.beq_refl t; rw [e] at this; exact nbeq (by simpa using this)
theorem nobodyW {W : World} (h : laidMetH Tryz.prog laid5 W) : GlobW Tryz.prog W.heap.size W (1, 111, [.int .i64 (-1), .int .i64 0]) := by
  obtain ⟨ps, ⟨g, t, cs, fuel, p, q, hg, ht, hvar, hd, _, _⟩, _⟩ := laidMet.tail (laidMet.tail (laidMet.tail (laid_plain h))); obtain rfl := Option.some.inj (gNob.symm.trans hg); obtain rfl := Option.some.inj (tNob.symm.trans ht); obtain ⟨y0, y1, n, hx, hl, h0, h1⟩ := trod_struct2 Tryz.underlying111 hd; have hl : cs.toList.length = 2 := hl.trans (by kernel_rfl); rw [show Tryz.prog.cellsOf 3 = 1 by kernel_rfl] at h0 h1; have hx := (congrArg Prod.fst hx : Rows.laid_tideway_closing_nobody = DataW.agg [y0.1, y1.1]); obtain ⟨z0, e0, f0, _⟩ := DataW.trod_int Tryz.underlying3 h0; obtain ⟨z1, e1, f1, _⟩ := DataW.trod_int Tryz.underlying3 h1; rw [f0, f1] at hx; have hx : DataW.agg [DataW.lit (H := Unit) (.int .i64 (-1)), DataW.lit (.int .i64 0)] = DataW.agg [DataW.lit (.int .i64 z0), DataW.lit (.int .i64 z1)] := hx; simp only [DataW.agg.injEq, List.cons.injEq, DataW.lit.injEq, Lit.int.injEq, true_and, and_true] at hx; obtain ⟨rfl, rfl⟩ := hx
  have hcs : cs.toList = [.int .i64 (-1), .int .i64 0] := by
    have e0 : (cs.toList.drop 0).take 1 = [.int .i64 (-1)] := e0; have e1 : (cs.toList.drop 1).take 1 = [.int .i64 0] := e1
    match hc : cs.toList, hl with
    | [a, b], _ =>
      rw [hc] at e0 e1; simp at e0 e1; rw [e0, e1]
  refine ⟨tNob, only_of (by kernel_rfl), var_lt gNob hvar, fun i hi => ?_, rfl⟩; rw [World.var?_cell gNob hvar i, ← Array.getElem?_toList, hcs]
  match i, hi with
  | 0, _ => rfl
  | 1, _ => rfl
def verD : DataW Unit := .agg [.agg [.lit (.string [107, 101, 112, 116]), .iface "func" (.lit (.string [116, 105, 100, 101, 119, 97, 121, 47, 99, 108, 111, 115, 105, 110, 103, 46, 118, 101, 114, 100, 105, 99, 116, 115, 36, 49]))], .agg [.lit (.string [109, 105, 115, 115, 101, 100]), .iface "func" (.lit (.string [116, 105, 100, 101, 119, 97, 121, 47, 99, 108, 111, 115, 105, 110, 103, 46, 118, 101, 114, 100, 105, 99, 116, 115, 36, 50]))], .agg [.lit (.string [111, 112, 101, 110]), .iface "func" (.lit (.string [116, 105, 100, 101, 119, 97, 121, 47, 99, 108, 111, 115, 105, 110, 103, 46, 118, 101, 114, 100, 105, 99, 116, 115, 36, 51]))]]
theorem verD_eq : (Rows.laid_tideway_closing_verdicts : DataW Unit) = .iface "func table" verD := by kernel_rfl
/-- One row of the table: a word and a function by its name. -/
theorem row_of {W : World} {n : Nat} {cs : List Value} {w : List UInt8} {b : UInt8} {r : List UInt8} {p : List MemPlace} {f0 : FuncId} (hone : ((List.range Tryz.prog.funcs.size).filter fun f => (Tryz.prog.funcs[f]?).any (·.name.toUTF8.data.toList == b :: r)) = [f0])
    (h : DataW.trod (funcToken Tryz.prog) Tryz.prog W 0 (fun _ => true) true n 161 cs = some (.agg [.lit (.string w), .held (b :: r)], p)) : cs = [.string ⟨w.toArray⟩, .func (.func f0) #[] #[]] := by
  obtain ⟨y0, y1, n, hx, hl, h0, h1⟩ := trod_struct2 Tryz.underlying161 h; have hl : cs.length = 2 := hl.trans (by kernel_rfl); rw [show Tryz.prog.cellsOf 9 = 1 by kernel_rfl] at h0; rw [show Tryz.prog.cellsOf 159 = 1 by kernel_rfl] at h1
  match cs, hl with
  | [a, c], _ =>
    obtain ⟨s, e0, f0', _⟩ := DataW.trod_string Tryz.underlying9 h0; have hx := congrArg Prod.fst hx; simp only [DataW.agg.injEq, List.cons.injEq, and_true] at hx; obtain ⟨hx0, hx1⟩ := hx; rw [f0'] at hx0; simp only [DataW.lit.injEq, Lit.string.injEq] at hx0
    have h1 : DataW.trod (funcToken Tryz.prog) Tryz.prog W 0 (fun _ => true) true n 159 [c] = some (.held (b :: r), y1.2) := by rw [hx1]; exact h1
    have hc := func_of_trod Tryz.underlying159 hone h1; have e0 : [a] = [Value.string s] := e0; simp only [List.cons.injEq, and_true] at e0
    have hs : s = ⟨w.toArray⟩ := by
      cases s with
      | mk d => cases d with
        | mk l => simp only at hx0; rw [hx0]
    rw [e0, hc, hs]
theorem trod_arr {P : Program} {w : World} {enc : TypeId × Value → List UInt8} {base : Nat} {sp : Nat → Bool} {held : Bool} {fuel : Nat} {t e : TypeId} {n : Nat} {cs : List Value} {x : DataW (List UInt8) × List MemPlace} (ht : P.underlying t = some (.array n e)) (h : DataW.trod enc P w base sp held fuel t cs = some x) :
    ∃ xs m, (DataW.agg (xs.map (·.1)), xs.flatMap (·.2)) = x ∧ cs.length = P.cellsOf t ∧ ((List.range n).mapM fun i => DataW.trod enc P w base sp held m e ((cs.drop (i * P.cellsOf e)).take (P.cellsOf e))) = some xs := by
  cases fuel with
  | zero => simp [DataW.trod] at h
  | succ fuel =>
    simp only [DataW.trod, ht] at h; split at h
    · rename_i hl; obtain ⟨xs, hm, hx⟩ := Option.map_eq_some_iff.1 h; exact ⟨xs, fuel, hx, hl, hm⟩
    · cases h
theorem verdictsW {W : World} (h : laidMetH Tryz.prog laid5 W) : GlobW Tryz.prog W.heap.size W (0, 162, [.string ⟨#[107, 101, 112, 116]⟩, .func (.func 237) #[] #[], .string ⟨#[109, 105, 115, 115, 101, 100]⟩, .func (.func 238) #[] #[], .string ⟨#[111, 112, 101, 110]⟩, .func (.func 239) #[] #[]]) := by
  have hm : ("tideway/closing.verdicts", DataW.iface "func table" verD) ∈ laid5 := by
    rw [← verD_eq]; exact .tail _ (.tail _ (.tail _ (.tail _ (.head _))))
  obtain ⟨g, t, cs, fuel, p, hg, ht, hvar, hd⟩ := h.funcs hm; obtain rfl := Option.some.inj (gVer.symm.trans hg); obtain rfl := Option.some.inj (tVer.symm.trans ht); obtain ⟨xs, n, hx, hl, hm⟩ := trod_arr Tryz.underlying162 hd; have hl : cs.toList.length = 6 := hl.trans (by kernel_rfl); rw [show Tryz.prog.cellsOf 161 = 2 by kernel_rfl] at hm
  have hxl : xs.length = 3 := by simpa using Lib.mapM_length hm
  match xs, hxl with
  | [x0, x1, x2], _ =>
    have hx := congrArg Prod.fst hx; have hx : DataW.agg [x0.1, x1.1, x2.1] = verD.funcsOut := hx
    have hv : verD.funcsOut = .agg [.agg [.lit (.string [107, 101, 112, 116]), .held [116, 105, 100, 101, 119, 97, 121, 47, 99, 108, 111, 115, 105, 110, 103, 46, 118, 101, 114, 100, 105, 99, 116, 115, 36, 49]], .agg [.lit (.string [109, 105, 115, 115, 101, 100]), .held [116, 105, 100, 101, 119, 97, 121, 47, 99, 108, 111, 115, 105, 110, 103, 46, 118, 101, 114, 100, 105, 99, 116, 115, 36, 50]], .agg [.lit (.string [111, 112, 101, 110]), .held [116, 105, 100, 101, 119, 97, 121, 47, 99, 108, 111, 115, 105, 110, 103, 46, 118, 101, 114, 100, 105, 99, 116, 115, 36, 51]]] := by kernel_rfl
    rw [hv] at hx; simp only [DataW.agg.injEq, List.cons.injEq, and_true] at hx; obtain ⟨hx0, hx1, hx2⟩ := hx; obtain ⟨b0, g0, q0⟩ := Lib.mapM_at hm 0 0 rfl; obtain ⟨b1, g1, q1⟩ := Lib.mapM_at hm 1 1 rfl; obtain ⟨b2, g2, q2⟩ := Lib.mapM_at hm 2 2 rfl; obtain rfl := Option.some.inj g0; obtain rfl := Option.some.inj g1; obtain rfl := Option.some.inj g2; have r0 := row_of (f0 := 237) (p := x0.2) (by kernel_rfl) (q0.trans (by rw [← hx0])); have r1 := row_of (f0 := 238) (p := x1.2) (by kernel_rfl) (q1.trans (by rw [← hx1])); have r2 := row_of (f0 := 239) (p := x2.2) (by kernel_rfl) (q2.trans (by rw [← hx2]))
    have hcs : cs.toList = [.string ⟨#[107, 101, 112, 116]⟩, .func (.func 237) #[] #[], .string ⟨#[109, 105, 115, 115, 101, 100]⟩, .func (.func 238) #[] #[], .string ⟨#[111, 112, 101, 110]⟩, .func (.func 239) #[] #[]] := by
      match hc : cs.toList, hl with
      | [a, b, c, d, e, f], _ =>
        rw [hc] at r0 r1 r2; simp at r0 r1 r2; rw [r0.1, r0.2, r1.1, r1.2, r2.1, r2.2]
    refine ⟨tVer, only_of (by kernel_rfl), var_lt gVer hvar, fun i hi => ?_, rfl⟩; rw [World.var?_cell gVer hvar i, ← Array.getElem?_toList, hcs]
    match i, hi with
    | 0, _ => rfl
    | 1, _ => rfl
    | 2, _ => rfl
    | 3, _ => rfl
    | 4, _ => rfl
    | 5, _ => rfl
end Go.Proofs.YtjmkmalgfanifaaGreatDoor
namespace Go.Proofs.YtjmkmalgfanifaaGreatDoor
open Go.ChangeShapes Go.WideShapes Go.ChangeAt Go.RowKit Go.Fs
theorem own : ownKnob Tryz.prog.godebug = none := by kernel_rfl
theorem laidOut : laidOutB Tryz.prog = true := by kernel_rfl
theorem tzGlob {W : World} (h : laidMetH Tryz.prog laid5 W) : ∀ x ∈ tzG, GlobW Tryz.prog W.heap.size W x := fun x hx => by
  rcases List.mem_cons.1 hx with rfl | hx
  · exact verdictsW h
  · obtain rfl := List.mem_singleton.1 hx; exact nobodyW h
/-- The oracle is sound wherever the tables lie. -/
theorem orcOk {W : World} (h : laidMetH Tryz.prog laid5 W) : CallSound Tryz.prog W.heap.size (Go.Fs.wz W) OA := by
  have hT : ∀ w, Below W.heap.size W w → Lib.TabIs Tryz.prog w "internal/strconv.uint64pow10" .u64 Lib.pow10Tab := Lib.tabBelow_of_tabIs (powTab h)
  have hS : ∀ w, Below W.heap.size W w → CallSound Tryz.prog w.heap.size (Go.Fs.wz w) OB := fun w hw =>
    tzOrcB rfl (Nat.le_refl _) fun w' hw' => hT w' (hw.trans ((below_z hw').mono hw.size))
  refine orcA_sound rfl (tzOrc rfl (Nat.le_refl _) fun w' hw' => hT w' (below_z hw')) tzAwakeE fun w hw => ?_; exact awakeGc_calls tzOk (n := 3) (L := tzG) (by decide) (by decide) (tzGlob h) (fun w hw => hw.size) (fun w' hw' => hS w' hw') tzRun w (below_z hw)
noncomputable def doorWorld (os : Os) : World := World.doorLaid Tryz.prog 200 os
end Go.Proofs.YtjmkmalgfanifaaGreatDoor
