import Derived.Test.YtaobbaohelpdgaaNest
import Derived.Test.YtaobbaohelpdgaaMrow
import Derived.Test.YtaobbaohelpdgaaFl
import Derived.Test.YtaobbaohelpdgaaProg
import Derived.Laws.StructEq
import Derived.WalkKit
namespace Go.Proofs.Ytaobbaohelpdgaa
open Go.RowKit
theorem g_mixed : Try.prog.follows .mixedOrders = true := by kernel_rfl
theorem to3 : TOne Try.prog 3 := fun _ => by kernel_rfl
theorem ts3 : TSize Try.prog 3 1 := fun _ => by kernel_rfl
def E3 : En (Int) := (En.int .i64)
abbrev R3 : Rep (Int) := Rep.fl E3
theorem tn3 : Try.prog.underlying 3 = some (.int .i64) := by kernel_rfl
theorem to5 : TOne Try.prog 5 := fun _ => by kernel_rfl
theorem ts5 : TSize Try.prog 5 1 := fun _ => by kernel_rfl
def E5 : En (Int) := (En.int .u8)
abbrev R5 : Rep (Int) := Rep.fl E5
theorem tn5 : Try.prog.underlying 5 = some (.int .u8) := by kernel_rfl
theorem to22 : TOne Try.prog 22 := fun _ => by kernel_rfl
theorem ts22 : TSize Try.prog 22 1 := fun _ => by kernel_rfl
def E56 : En (Int × Int) := (En.pr (En.int .i64) (En.int .i64))
abbrev R56 : Rep (Int × Int) := Rep.fl E56
abbrev R57 : Rep (List (Int × Int)) := Rep.sl R56
abbrev X57 : Ex R57 (Option Addr × Nat) := Ex.sl R56
abbrev R59 : Rep ((List (Int × Int)) × Int × Int) := (Rep.pr R57 (Rep.pr R3 R3))
abbrev X59 : Ex R59 ((Option Addr × Nat) × Unit × Unit) := (Ex.pr X57 (Ex.pr (Ex.fl E3) (Ex.fl E3)))
theorem tl22 : TSlice Try.prog 22 3 := ⟨59, by kernel_rfl, fun _ => by kernel_rfl⟩
theorem tu22 : Try.prog.underlying 22 = some (.slice 59) := by kernel_rfl
theorem tp22 : TApp Try.prog 22 59 3 40 := tapp_of (z := .agg #[.slice none 0 0, .int .i64 0, .int .i64 0]) (by kernel_rfl) (by kernel_rfl) (by kernel_rfl) (by decide)
theorem to23 : TOne Try.prog 23 := fun _ => by kernel_rfl
theorem ts23 : TSize Try.prog 23 1 := fun _ => by kernel_rfl
abbrev R28 : Rep (List Int) := Rep.sl R3
abbrev X28 : Ex R28 (Option Addr × Nat) := Ex.sl R3
abbrev R27 : Rep (List (List Int)) := Rep.sl R28
abbrev X27 : Ex R27 (Option Addr × Nat) := Ex.sl R28
theorem tl23 : TSlice Try.prog 23 1 := ⟨27, by kernel_rfl, fun _ => by kernel_rfl⟩
theorem tu23 : Try.prog.underlying 23 = some (.slice 27) := by kernel_rfl
theorem tp23 : TApp Try.prog 23 27 1 24 := tapp_of (z := .slice none 0 0) (by kernel_rfl) (by kernel_rfl) (by kernel_rfl) (by decide)
theorem ta25 : TAgg Try.prog 25 2 := fun _ => ⟨by kernel_rfl, by kernel_rfl⟩
theorem ts25 : TSize Try.prog 25 2 := fun _ => by kernel_rfl
theorem fo25_0 : FOff Try.prog 25 0 0 := fun _ _ => by kernel_rfl
theorem fo25_1 : FOff Try.prog 25 1 1 := fun _ _ => by kernel_rfl
theorem to26 : TOne Try.prog 26 := fun _ => by kernel_rfl
def E26 : En (Int) := (En.int .u64)
abbrev R26 : Rep (Int) := Rep.fl E26
theorem tn26 : Try.prog.underlying 26 = some (.int .u64) := by kernel_rfl
theorem to27 : TOne Try.prog 27 := fun _ => by kernel_rfl
theorem tl27 : TSlice Try.prog 27 1 := ⟨28, by kernel_rfl, fun _ => by kernel_rfl⟩
theorem tu27 : Try.prog.underlying 27 = some (.slice 28) := by kernel_rfl
theorem tp27 : TApp Try.prog 27 28 1 24 := tapp_of (z := .slice none 0 0) (by kernel_rfl) (by kernel_rfl) (by kernel_rfl) (by decide)
theorem to28 : TOne Try.prog 28 := fun _ => by kernel_rfl
theorem tl28 : TSlice Try.prog 28 1 := ⟨3, by kernel_rfl, fun _ => by kernel_rfl⟩
theorem tu28 : Try.prog.underlying 28 = some (.slice 3) := by kernel_rfl
theorem tp28 : TApp Try.prog 28 3 1 8 := tapp_of (z := .int .i64 0) (by kernel_rfl) (by kernel_rfl) (by kernel_rfl) (by decide)
theorem to29 : TOne Try.prog 29 := fun _ => by kernel_rfl
theorem ts29 : TSize Try.prog 29 1 := fun _ => by kernel_rfl
theorem to33 : TOne Try.prog 33 := fun _ => by kernel_rfl
theorem ts33 : TSize Try.prog 33 1 := fun _ => by kernel_rfl
theorem tl33 : TSlice Try.prog 33 1 := ⟨5, by kernel_rfl, fun _ => by kernel_rfl⟩
theorem tu33 : Try.prog.underlying 33 = some (.slice 5) := by kernel_rfl
theorem tp33 : TApp Try.prog 33 5 1 1 := tapp_of (z := .int .u8 0) (by kernel_rfl) (by kernel_rfl) (by kernel_rfl) (by decide)
theorem to36 : TOne Try.prog 36 := fun _ => by kernel_rfl
theorem ts36 : TSize Try.prog 36 1 := fun _ => by kernel_rfl
def E73 : En (Int × Int) := (En.pr (En.int .i64) (En.int .i64))
abbrev R73 : Rep (Int × Int) := Rep.fl E73
abbrev R76 : Rep (List (Int × Int)) := Rep.sl R73
abbrev X76 : Ex R76 (Option Addr × Nat) := Ex.sl R73
abbrev R78 : Rep ((List (Int × Int)) × Int × Int) := (Rep.pr R76 (Rep.pr R3 R3))
abbrev X78 : Ex R78 ((Option Addr × Nat) × Unit × Unit) := (Ex.pr X76 (Ex.pr (Ex.fl E3) (Ex.fl E3)))
theorem tl36 : TSlice Try.prog 36 3 := ⟨78, by kernel_rfl, fun _ => by kernel_rfl⟩
theorem tu36 : Try.prog.underlying 36 = some (.slice 78) := by kernel_rfl
theorem tp36 : TApp Try.prog 36 78 3 40 := tapp_of (z := .agg #[.slice none 0 0, .int .i64 0, .int .i64 0]) (by kernel_rfl) (by kernel_rfl) (by kernel_rfl) (by decide)
theorem ta38 : TAgg Try.prog 38 2 := fun _ => ⟨by kernel_rfl, by kernel_rfl⟩
theorem ts38 : TSize Try.prog 38 2 := fun _ => by kernel_rfl
theorem fo38_0 : FOff Try.prog 38 0 0 := fun _ _ => by kernel_rfl
theorem fo38_1 : FOff Try.prog 38 1 1 := fun _ _ => by kernel_rfl
theorem ta56 : TAgg Try.prog 56 2 := fun _ => ⟨by kernel_rfl, by kernel_rfl⟩
theorem ts56 : TSize Try.prog 56 2 := fun _ => by kernel_rfl
theorem fo56_0 : FOff Try.prog 56 0 0 := fun _ _ => by kernel_rfl
theorem fo56_1 : FOff Try.prog 56 1 1 := fun _ _ => by kernel_rfl
theorem to57 : TOne Try.prog 57 := fun _ => by kernel_rfl
theorem ts57 : TSize Try.prog 57 1 := fun _ => by kernel_rfl
theorem tl57 : TSlice Try.prog 57 2 := ⟨56, by kernel_rfl, fun _ => by kernel_rfl⟩
theorem tu57 : Try.prog.underlying 57 = some (.slice 56) := by kernel_rfl
theorem tp57 : TApp Try.prog 57 56 2 16 := tapp_of (z := .agg #[.int .i64 0, .int .i64 0]) (by kernel_rfl) (by kernel_rfl) (by kernel_rfl) (by decide)
theorem ta59 : TAgg Try.prog 59 3 := fun _ => ⟨by kernel_rfl, by kernel_rfl⟩
theorem ts59 : TSize Try.prog 59 3 := fun _ => by kernel_rfl
theorem fo59_0 : FOff Try.prog 59 0 0 := fun _ _ => by kernel_rfl
theorem fo59_1 : FOff Try.prog 59 1 1 := fun _ _ => by kernel_rfl
theorem fo59_2 : FOff Try.prog 59 2 2 := fun _ _ => by kernel_rfl
theorem fo65_0 : FOff Try.prog 65 0 0 := fun _ _ => by kernel_rfl
theorem fo65_1 : FOff Try.prog 65 1 1 := fun _ _ => by kernel_rfl
theorem fo67_0 : FOff Try.prog 67 0 0 := fun _ _ => by kernel_rfl
theorem fo67_1 : FOff Try.prog 67 1 2 := fun _ _ => by kernel_rfl
theorem ts69 : TSize Try.prog 69 1 := fun _ => by kernel_rfl
theorem fo69_0 : FOff Try.prog 69 0 0 := fun _ _ => by kernel_rfl
theorem ta72 : TAgg Try.prog 72 3 := fun _ => ⟨by kernel_rfl, by kernel_rfl⟩
theorem ts72 : TSize Try.prog 72 3 := fun _ => by kernel_rfl
theorem fo72_0 : FOff Try.prog 72 0 0 := fun _ _ => by kernel_rfl
theorem fo72_1 : FOff Try.prog 72 1 1 := fun _ _ => by kernel_rfl
theorem fo72_2 : FOff Try.prog 72 2 2 := fun _ _ => by kernel_rfl
theorem ta73 : TAgg Try.prog 73 2 := fun _ => ⟨by kernel_rfl, by kernel_rfl⟩
theorem ts73 : TSize Try.prog 73 2 := fun _ => by kernel_rfl
theorem fo73_0 : FOff Try.prog 73 0 0 := fun _ _ => by kernel_rfl
theorem fo73_1 : FOff Try.prog 73 1 1 := fun _ _ => by kernel_rfl
theorem to76 : TOne Try.prog 76 := fun _ => by kernel_rfl
theorem ts76 : TSize Try.prog 76 1 := fun _ => by kernel_rfl
theorem tl76 : TSlice Try.prog 76 2 := ⟨73, by kernel_rfl, fun _ => by kernel_rfl⟩
theorem tu76 : Try.prog.underlying 76 = some (.slice 73) := by kernel_rfl
theorem tp76 : TApp Try.prog 76 73 2 16 := tapp_of (z := .agg #[.int .i64 0, .int .i64 0]) (by kernel_rfl) (by kernel_rfl) (by kernel_rfl) (by decide)
theorem ta78 : TAgg Try.prog 78 3 := fun _ => ⟨by kernel_rfl, by kernel_rfl⟩
theorem ts78 : TSize Try.prog 78 3 := fun _ => by kernel_rfl
theorem fo78_0 : FOff Try.prog 78 0 0 := fun _ _ => by kernel_rfl
theorem fo78_1 : FOff Try.prog 78 1 1 := fun _ _ => by kernel_rfl
theorem fo78_2 : FOff Try.prog 78 2 2 := fun _ _ => by kernel_rfl
theorem tl87 : TSlice Try.prog 87 1 := ⟨26, by kernel_rfl, fun _ => by kernel_rfl⟩
theorem tu87 : Try.prog.underlying 87 = some (.slice 26) := by kernel_rfl
theorem cf7 : CF Try.prog 7 := fun _ _ => by kernel_rfl
theorem cf8 : CF Try.prog 8 := fun _ _ => by kernel_rfl
theorem cf9 : CF Try.prog 9 := fun _ _ => by kernel_rfl
theorem cf10 : CF Try.prog 10 := fun _ _ => by kernel_rfl
theorem cf11 : CF Try.prog 11 := fun _ _ => by kernel_rfl
theorem cf12 : CF Try.prog 12 := fun _ _ => by kernel_rfl
theorem cf13 : CF Try.prog 13 := fun _ _ => by kernel_rfl
theorem cf14 : CF Try.prog 14 := fun _ _ => by kernel_rfl
theorem cf17 : CF Try.prog 17 := fun _ _ => by kernel_rfl
theorem cf20 : CF Try.prog 20 := fun _ _ => by kernel_rfl
theorem cf21 : CF Try.prog 21 := fun _ _ => by kernel_rfl
theorem cf22 : CF Try.prog 22 := fun _ _ => by kernel_rfl
theorem cf23 : CF Try.prog 23 := fun _ _ => by kernel_rfl
theorem cf24 : CF Try.prog 24 := fun _ _ => by kernel_rfl
theorem cf25 : CF Try.prog 25 := fun _ _ => by kernel_rfl
theorem cf26 : CF Try.prog 26 := fun _ _ => by kernel_rfl
theorem cf27 : CF Try.prog 27 := fun _ _ => by kernel_rfl
theorem cf28 : CF Try.prog 28 := fun _ _ => by kernel_rfl
theorem cf29 : CF Try.prog 29 := fun _ _ => by kernel_rfl
theorem cf30 : CF Try.prog 30 := fun _ _ => by kernel_rfl
theorem cf31 : CF Try.prog 31 := fun _ _ => by kernel_rfl
theorem cf32 : CF Try.prog 32 := fun _ _ => by kernel_rfl
theorem cf35 : CF Try.prog 35 := fun _ _ => by kernel_rfl
theorem cf43 : CF Try.prog 43 := fun _ _ => by kernel_rfl
theorem cf44 : CF Try.prog 44 := fun _ _ => by kernel_rfl
theorem cf45 : CF Try.prog 45 := fun _ _ => by kernel_rfl
theorem cf46 : CF Try.prog 46 := fun _ _ => by kernel_rfl
theorem cf47 : CF Try.prog 47 := fun _ _ => by kernel_rfl
theorem cf48 : CF Try.prog 48 := fun _ _ => by kernel_rfl
theorem cf49 : CF Try.prog 49 := fun _ _ => by kernel_rfl
theorem cf50 : CF Try.prog 50 := fun _ _ => by kernel_rfl
theorem cf51 : CF Try.prog 51 := fun _ _ => by kernel_rfl
theorem cf52 : CF Try.prog 52 := fun _ _ => by kernel_rfl
theorem cf53 : CF Try.prog 53 := fun _ _ => by kernel_rfl
theorem cf55 : CF Try.prog 55 := fun _ _ => by kernel_rfl
theorem cf60 : CF Try.prog 60 := fun _ _ => by kernel_rfl
theorem cf61 : CF Try.prog 61 := fun _ _ => by kernel_rfl
theorem cf62 : CF Try.prog 62 := fun _ _ => by kernel_rfl
theorem cf63 : CF Try.prog 63 := fun _ _ => by kernel_rfl
theorem cf64 : CF Try.prog 64 := fun _ _ => by kernel_rfl
theorem cf65 : CF Try.prog 65 := fun _ _ => by kernel_rfl
end Go.Proofs.Ytaobbaohelpdgaa
