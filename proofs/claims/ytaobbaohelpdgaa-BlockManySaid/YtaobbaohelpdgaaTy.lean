/-
  Closed facts on the types and functions of the program at hand, for the walks.
-/
import Derived.Test.YtaobbaohelpdgaaNest
import Derived.Test.YtaobbaohelpdgaaMrow
import Derived.Test.YtaobbaohelpdgaaFl
import Derived.Test.YtaobbaohelpdgaaProg
import Derived.Laws.StructEq
import Derived.WalkKit
namespace Go.Proofs.Ytaobbaohelpdgaa
open Go.RowKit
theorem g_mixed : Try.prog.follows .mixedOrders = true := by kernel_rfl
theorem to1 : TOne Try.prog 1 := fun _ => by kernel_rfl
theorem ts1 : TSize Try.prog 1 1 := fun _ => by kernel_rfl
theorem to2 : TOne Try.prog 2 := fun _ => by kernel_rfl
theorem ts2 : TSize Try.prog 2 1 := fun _ => by kernel_rfl
def E2 : En (Int) := (En.int .i64)
abbrev R2 : Rep (Int) := Rep.fl E2
theorem tn2 : Try.prog.underlying 2 = some (.int .i64) := by kernel_rfl
theorem to3 : TOne Try.prog 3 := fun _ => by kernel_rfl
theorem ts3 : TSize Try.prog 3 1 := fun _ => by kernel_rfl
def E3 : En (Int) := (En.int .i64)
abbrev R3 : Rep (Int) := Rep.fl E3
theorem tn3 : Try.prog.underlying 3 = some (.int .i64) := by kernel_rfl
theorem to4 : TOne Try.prog 4 := fun _ => by kernel_rfl
theorem ts4 : TSize Try.prog 4 1 := fun _ => by kernel_rfl
def E4 : En (Bool) := En.bool
abbrev R4 : Rep (Bool) := Rep.fl E4
theorem tb4 : Try.prog.underlying 4 = some .bool := by kernel_rfl
theorem to5 : TOne Try.prog 5 := fun _ => by kernel_rfl
theorem ts5 : TSize Try.prog 5 1 := fun _ => by kernel_rfl
def E5 : En (Int) := (En.int .u8)
abbrev R5 : Rep (Int) := Rep.fl E5
theorem tn5 : Try.prog.underlying 5 = some (.int .u8) := by kernel_rfl
theorem to6 : TOne Try.prog 6 := fun _ => by kernel_rfl
theorem ts6 : TSize Try.prog 6 1 := fun _ => by kernel_rfl
def E6 : En (Int) := (En.int .u8)
abbrev R6 : Rep (Int) := Rep.fl E6
theorem tn6 : Try.prog.underlying 6 = some (.int .u8) := by kernel_rfl
theorem ta7 : TAgg Try.prog 7 4 := fun _ => ⟨by kernel_rfl, by kernel_rfl⟩
theorem ts7 : TSize Try.prog 7 4 := fun _ => by kernel_rfl
def E7 : En (Int × Int × Bool × Int) := (En.pr (En.int .i64) (En.pr (En.int .i64) (En.pr En.bool (En.int .u8))))
abbrev R7 : Rep (Int × Int × Bool × Int) := Rep.fl E7
theorem fo7_0 : FOff Try.prog 7 0 0 := fun _ _ => by kernel_rfl
theorem fo7_1 : FOff Try.prog 7 1 1 := fun _ _ => by kernel_rfl
theorem fo7_2 : FOff Try.prog 7 2 2 := fun _ _ => by kernel_rfl
theorem fo7_3 : FOff Try.prog 7 3 3 := fun _ _ => by kernel_rfl
theorem ta8 : TAgg Try.prog 8 4 := fun _ => ⟨by kernel_rfl, by kernel_rfl⟩
theorem ts8 : TSize Try.prog 8 4 := fun _ => by kernel_rfl
def E8 : En (Int × Int × Bool × Int) := (En.pr (En.int .i64) (En.pr (En.int .i64) (En.pr En.bool (En.int .u8))))
abbrev R8 : Rep (Int × Int × Bool × Int) := Rep.fl E8
theorem fo8_0 : FOff Try.prog 8 0 0 := fun _ _ => by kernel_rfl
theorem fo8_1 : FOff Try.prog 8 1 1 := fun _ _ => by kernel_rfl
theorem fo8_2 : FOff Try.prog 8 2 2 := fun _ _ => by kernel_rfl
theorem fo8_3 : FOff Try.prog 8 3 3 := fun _ _ => by kernel_rfl
theorem to9 : TOne Try.prog 9 := fun _ => by kernel_rfl
theorem ts9 : TSize Try.prog 9 1 := fun _ => by kernel_rfl
def E9 : En (ByteArray) := En.str
abbrev R9 : Rep (ByteArray) := Rep.fl E9
theorem to10 : TOne Try.prog 10 := fun _ => by kernel_rfl
theorem ts10 : TSize Try.prog 10 1 := fun _ => by kernel_rfl
def E10 : En (ByteArray) := En.str
abbrev R10 : Rep (ByteArray) := Rep.fl E10
theorem to11 : TOne Try.prog 11 := fun _ => by kernel_rfl
theorem ts11 : TSize Try.prog 11 1 := fun _ => by kernel_rfl
def E11 : En (ByteArray) := En.str
abbrev R11 : Rep (ByteArray) := Rep.fl E11
theorem to12 : TOne Try.prog 12 := fun _ => by kernel_rfl
theorem ts12 : TSize Try.prog 12 1 := fun _ => by kernel_rfl
def E12 : En (Int) := (En.int .u64)
abbrev R12 : Rep (Int) := Rep.fl E12
theorem tn12 : Try.prog.underlying 12 = some (.int .u64) := by kernel_rfl
theorem ta13 : TAgg Try.prog 13 2 := fun _ => ⟨by kernel_rfl, by kernel_rfl⟩
theorem ts13 : TSize Try.prog 13 2 := fun _ => by kernel_rfl
def E13 : En (ByteArray × Int) := (En.pr En.str (En.int .u64))
abbrev R13 : Rep (ByteArray × Int) := Rep.fl E13
theorem fo13_0 : FOff Try.prog 13 0 0 := fun _ _ => by kernel_rfl
theorem fo13_1 : FOff Try.prog 13 1 1 := fun _ _ => by kernel_rfl
theorem ta14 : TAgg Try.prog 14 2 := fun _ => ⟨by kernel_rfl, by kernel_rfl⟩
theorem ts14 : TSize Try.prog 14 2 := fun _ => by kernel_rfl
def E14 : En (ByteArray × Int) := (En.pr En.str (En.int .u64))
abbrev R14 : Rep (ByteArray × Int) := Rep.fl E14
theorem fo14_0 : FOff Try.prog 14 0 0 := fun _ _ => by kernel_rfl
theorem fo14_1 : FOff Try.prog 14 1 1 := fun _ _ => by kernel_rfl
theorem to15 : TOne Try.prog 15 := fun _ => by kernel_rfl
theorem ts15 : TSize Try.prog 15 1 := fun _ => by kernel_rfl
theorem to16 : TOne Try.prog 16 := fun _ => by kernel_rfl
theorem ts16 : TSize Try.prog 16 1 := fun _ => by kernel_rfl
theorem to17 : TOne Try.prog 17 := fun _ => by kernel_rfl
theorem ts17 : TSize Try.prog 17 1 := fun _ => by kernel_rfl
theorem ta18 : TAgg Try.prog 18 1 := fun _ => ⟨by kernel_rfl, by kernel_rfl⟩
theorem ts18 : TSize Try.prog 18 1 := fun _ => by kernel_rfl
theorem fo18_0 : FOff Try.prog 18 0 0 := fun _ _ => by kernel_rfl
theorem ta19 : TAgg Try.prog 19 1 := fun _ => ⟨by kernel_rfl, by kernel_rfl⟩
theorem ts19 : TSize Try.prog 19 1 := fun _ => by kernel_rfl
theorem fo19_0 : FOff Try.prog 19 0 0 := fun _ _ => by kernel_rfl
theorem to21 : TOne Try.prog 21 := fun _ => by kernel_rfl
theorem ts21 : TSize Try.prog 21 1 := fun _ => by kernel_rfl
def E21 : En (Int) := (En.int .i32)
abbrev R21 : Rep (Int) := Rep.fl E21
theorem tn21 : Try.prog.underlying 21 = some (.int .i32) := by kernel_rfl
theorem to22 : TOne Try.prog 22 := fun _ => by kernel_rfl
theorem ts22 : TSize Try.prog 22 1 := fun _ => by kernel_rfl
def E56 : En (Int × Int) := (En.pr (En.int .i64) (En.int .i64))
abbrev R56 : Rep (Int × Int) := Rep.fl E56
abbrev R57 : Rep (List (Int × Int)) := Rep.sl R56
abbrev X57 : Ex R57 (Option Addr × Nat) := Ex.sl R56
abbrev R59 : Rep ((List (Int × Int)) × Int × Int) := (Rep.pr R57 (Rep.pr R3 R3))
abbrev X59 : Ex R59 ((Option Addr × Nat) × Unit × Unit) := (Ex.pr X57 (Ex.pr (Ex.fl E3) (Ex.fl E3)))
abbrev R22 : Rep (List ((List (Int × Int)) × Int × Int)) := Rep.sl R59
abbrev X22 : Ex R22 (Option Addr × Nat) := Ex.sl R59
theorem tl22 : TSlice Try.prog 22 3 := ⟨59, by kernel_rfl, fun _ => by kernel_rfl⟩
theorem tu22 : Try.prog.underlying 22 = some (.slice 59) := by kernel_rfl
theorem tp22 : TApp Try.prog 22 59 3 40 := tapp_of (z := .agg #[.slice none 0 0, .int .i64 0, .int .i64 0]) (by kernel_rfl) (by kernel_rfl) (by kernel_rfl) (by decide)
theorem to23 : TOne Try.prog 23 := fun _ => by kernel_rfl
theorem ts23 : TSize Try.prog 23 1 := fun _ => by kernel_rfl
abbrev R28 : Rep (List Int) := Rep.sl R3
abbrev X28 : Ex R28 (Option Addr × Nat) := Ex.sl R3
abbrev R27 : Rep (List (List Int)) := Rep.sl R28
abbrev X27 : Ex R27 (Option Addr × Nat) := Ex.sl R28
abbrev R23 : Rep (List (List (List Int))) := Rep.sl R27
abbrev X23 : Ex R23 (Option Addr × Nat) := Ex.sl R27
theorem tl23 : TSlice Try.prog 23 1 := ⟨27, by kernel_rfl, fun _ => by kernel_rfl⟩
theorem tu23 : Try.prog.underlying 23 = some (.slice 27) := by kernel_rfl
theorem tp23 : TApp Try.prog 23 27 1 24 := tapp_of (z := .slice none 0 0) (by kernel_rfl) (by kernel_rfl) (by kernel_rfl) (by decide)
theorem ta24 : TAgg Try.prog 24 2 := fun _ => ⟨by kernel_rfl, by kernel_rfl⟩
theorem ts24 : TSize Try.prog 24 2 := fun _ => by kernel_rfl
abbrev R24 : Rep ((List ((List (Int × Int)) × Int × Int)) × (List (List (List Int)))) := (Rep.pr R22 R23)
abbrev X24 : Ex R24 ((Option Addr × Nat) × (Option Addr × Nat)) := (Ex.pr X22 X23)
theorem fo24_0 : FOff Try.prog 24 0 0 := fun _ _ => by kernel_rfl
theorem fo24_1 : FOff Try.prog 24 1 1 := fun _ _ => by kernel_rfl
theorem ta25 : TAgg Try.prog 25 2 := fun _ => ⟨by kernel_rfl, by kernel_rfl⟩
theorem ts25 : TSize Try.prog 25 2 := fun _ => by kernel_rfl
abbrev R25 : Rep ((List ((List (Int × Int)) × Int × Int)) × (List (List (List Int)))) := (Rep.pr R22 R23)
abbrev X25 : Ex R25 ((Option Addr × Nat) × (Option Addr × Nat)) := (Ex.pr X22 X23)
theorem fo25_0 : FOff Try.prog 25 0 0 := fun _ _ => by kernel_rfl
theorem fo25_1 : FOff Try.prog 25 1 1 := fun _ _ => by kernel_rfl
theorem to26 : TOne Try.prog 26 := fun _ => by kernel_rfl
theorem ts26 : TSize Try.prog 26 1 := fun _ => by kernel_rfl
def E26 : En (Int) := (En.int .u64)
abbrev R26 : Rep (Int) := Rep.fl E26
theorem tn26 : Try.prog.underlying 26 = some (.int .u64) := by kernel_rfl
theorem to27 : TOne Try.prog 27 := fun _ => by kernel_rfl
theorem ts27 : TSize Try.prog 27 1 := fun _ => by kernel_rfl
theorem tl27 : TSlice Try.prog 27 1 := ⟨28, by kernel_rfl, fun _ => by kernel_rfl⟩
theorem tu27 : Try.prog.underlying 27 = some (.slice 28) := by kernel_rfl
theorem tp27 : TApp Try.prog 27 28 1 24 := tapp_of (z := .slice none 0 0) (by kernel_rfl) (by kernel_rfl) (by kernel_rfl) (by decide)
theorem to28 : TOne Try.prog 28 := fun _ => by kernel_rfl
theorem ts28 : TSize Try.prog 28 1 := fun _ => by kernel_rfl
theorem tl28 : TSlice Try.prog 28 1 := ⟨3, by kernel_rfl, fun _ => by kernel_rfl⟩
theorem tu28 : Try.prog.underlying 28 = some (.slice 3) := by kernel_rfl
theorem tp28 : TApp Try.prog 28 3 1 8 := tapp_of (z := .int .i64 0) (by kernel_rfl) (by kernel_rfl) (by kernel_rfl) (by decide)
theorem to29 : TOne Try.prog 29 := fun _ => by kernel_rfl
theorem ts29 : TSize Try.prog 29 1 := fun _ => by kernel_rfl
def E29 : En (Int) := (En.int .i64)
abbrev R29 : Rep (Int) := Rep.fl E29
theorem tn29 : Try.prog.underlying 29 = some (.int .i64) := by kernel_rfl
theorem to30 : TOne Try.prog 30 := fun _ => by kernel_rfl
theorem ts30 : TSize Try.prog 30 1 := fun _ => by kernel_rfl
theorem to31 : TOne Try.prog 31 := fun _ => by kernel_rfl
theorem ts31 : TSize Try.prog 31 1 := fun _ => by kernel_rfl
theorem to32 : TOne Try.prog 32 := fun _ => by kernel_rfl
theorem ts32 : TSize Try.prog 32 1 := fun _ => by kernel_rfl
theorem to33 : TOne Try.prog 33 := fun _ => by kernel_rfl
theorem ts33 : TSize Try.prog 33 1 := fun _ => by kernel_rfl
abbrev R33 : Rep (List Int) := Rep.sl R5
abbrev X33 : Ex R33 (Option Addr × Nat) := Ex.sl R5
theorem tl33 : TSlice Try.prog 33 1 := ⟨5, by kernel_rfl, fun _ => by kernel_rfl⟩
theorem tu33 : Try.prog.underlying 33 = some (.slice 5) := by kernel_rfl
theorem tp33 : TApp Try.prog 33 5 1 1 := tapp_of (z := .int .u8 0) (by kernel_rfl) (by kernel_rfl) (by kernel_rfl) (by decide)
theorem to35 : TOne Try.prog 35 := fun _ => by kernel_rfl
theorem ts35 : TSize Try.prog 35 1 := fun _ => by kernel_rfl
theorem to36 : TOne Try.prog 36 := fun _ => by kernel_rfl
theorem ts36 : TSize Try.prog 36 1 := fun _ => by kernel_rfl
def E73 : En (Int × Int) := (En.pr (En.int .i64) (En.int .i64))
abbrev R73 : Rep (Int × Int) := Rep.fl E73
abbrev R76 : Rep (List (Int × Int)) := Rep.sl R73
abbrev X76 : Ex R76 (Option Addr × Nat) := Ex.sl R73
abbrev R78 : Rep ((List (Int × Int)) × Int × Int) := (Rep.pr R76 (Rep.pr R3 R3))
abbrev X78 : Ex R78 ((Option Addr × Nat) × Unit × Unit) := (Ex.pr X76 (Ex.pr (Ex.fl E3) (Ex.fl E3)))
abbrev R36 : Rep (List ((List (Int × Int)) × Int × Int)) := Rep.sl R78
abbrev X36 : Ex R36 (Option Addr × Nat) := Ex.sl R78
theorem tl36 : TSlice Try.prog 36 3 := ⟨78, by kernel_rfl, fun _ => by kernel_rfl⟩
theorem tu36 : Try.prog.underlying 36 = some (.slice 78) := by kernel_rfl
theorem tp36 : TApp Try.prog 36 78 3 40 := tapp_of (z := .agg #[.slice none 0 0, .int .i64 0, .int .i64 0]) (by kernel_rfl) (by kernel_rfl) (by kernel_rfl) (by decide)
theorem ta37 : TAgg Try.prog 37 2 := fun _ => ⟨by kernel_rfl, by kernel_rfl⟩
theorem ts37 : TSize Try.prog 37 2 := fun _ => by kernel_rfl
abbrev R37 : Rep ((List ((List (Int × Int)) × Int × Int)) × (List (List (List Int)))) := (Rep.pr R36 R23)
abbrev X37 : Ex R37 ((Option Addr × Nat) × (Option Addr × Nat)) := (Ex.pr X36 X23)
theorem fo37_0 : FOff Try.prog 37 0 0 := fun _ _ => by kernel_rfl
theorem fo37_1 : FOff Try.prog 37 1 1 := fun _ _ => by kernel_rfl
theorem ta38 : TAgg Try.prog 38 2 := fun _ => ⟨by kernel_rfl, by kernel_rfl⟩
theorem ts38 : TSize Try.prog 38 2 := fun _ => by kernel_rfl
abbrev R38 : Rep ((List ((List (Int × Int)) × Int × Int)) × (List (List (List Int)))) := (Rep.pr R36 R23)
abbrev X38 : Ex R38 ((Option Addr × Nat) × (Option Addr × Nat)) := (Ex.pr X36 X23)
theorem fo38_0 : FOff Try.prog 38 0 0 := fun _ _ => by kernel_rfl
theorem fo38_1 : FOff Try.prog 38 1 1 := fun _ _ => by kernel_rfl
theorem to40 : TOne Try.prog 40 := fun _ => by kernel_rfl
theorem ts40 : TSize Try.prog 40 1 := fun _ => by kernel_rfl
theorem to41 : TOne Try.prog 41 := fun _ => by kernel_rfl
theorem ts41 : TSize Try.prog 41 1 := fun _ => by kernel_rfl
theorem to43 : TOne Try.prog 43 := fun _ => by kernel_rfl
theorem ts43 : TSize Try.prog 43 1 := fun _ => by kernel_rfl
theorem to45 : TOne Try.prog 45 := fun _ => by kernel_rfl
theorem ts45 : TSize Try.prog 45 1 := fun _ => by kernel_rfl
theorem to46 : TOne Try.prog 46 := fun _ => by kernel_rfl
theorem ts46 : TSize Try.prog 46 1 := fun _ => by kernel_rfl
theorem to47 : TOne Try.prog 47 := fun _ => by kernel_rfl
theorem ts47 : TSize Try.prog 47 1 := fun _ => by kernel_rfl
theorem to48 : TOne Try.prog 48 := fun _ => by kernel_rfl
theorem ts48 : TSize Try.prog 48 1 := fun _ => by kernel_rfl
theorem to49 : TOne Try.prog 49 := fun _ => by kernel_rfl
theorem ts49 : TSize Try.prog 49 1 := fun _ => by kernel_rfl
theorem to50 : TOne Try.prog 50 := fun _ => by kernel_rfl
theorem ts50 : TSize Try.prog 50 1 := fun _ => by kernel_rfl
theorem to51 : TOne Try.prog 51 := fun _ => by kernel_rfl
theorem ts51 : TSize Try.prog 51 1 := fun _ => by kernel_rfl
theorem to52 : TOne Try.prog 52 := fun _ => by kernel_rfl
theorem ts52 : TSize Try.prog 52 1 := fun _ => by kernel_rfl
theorem to53 : TOne Try.prog 53 := fun _ => by kernel_rfl
theorem ts53 : TSize Try.prog 53 1 := fun _ => by kernel_rfl
theorem to54 : TOne Try.prog 54 := fun _ => by kernel_rfl
theorem ts54 : TSize Try.prog 54 1 := fun _ => by kernel_rfl
theorem ta55 : TAgg Try.prog 55 2 := fun _ => ⟨by kernel_rfl, by kernel_rfl⟩
theorem ts55 : TSize Try.prog 55 2 := fun _ => by kernel_rfl
def E55 : En (Int × Int) := (En.pr (En.int .i64) (En.int .i64))
abbrev R55 : Rep (Int × Int) := Rep.fl E55
theorem fo55_0 : FOff Try.prog 55 0 0 := fun _ _ => by kernel_rfl
theorem fo55_1 : FOff Try.prog 55 1 1 := fun _ _ => by kernel_rfl
theorem se55 (x0 x1 y0 y1 : Int) (w : World) : (binOp .eql 55 (.agg #[.int .i64 x0, .int .i64 x1]) (.agg #[.int .i64 y0, .int .i64 y1])).run Try.prog w = .ok (.bool (decide ((x0, x1) = (y0, y1)))) w := by
  go_simp
  by_cases h0 : x0 = y0 <;> by_cases h1 : x1 = y1 <;> simp [h0, h1]
theorem sn55 (x0 x1 y0 y1 : Int) (w : World) : (binOp .neq 55 (.agg #[.int .i64 x0, .int .i64 x1]) (.agg #[.int .i64 y0, .int .i64 y1])).run Try.prog w = .ok (.bool (!decide ((x0, x1) = (y0, y1)))) w := by
  go_simp
  by_cases h0 : x0 = y0 <;> by_cases h1 : x1 = y1 <;> simp [h0, h1]
theorem sg55 : TGuard Try.prog 55 := fun op x y xs ys w => run_eqGuard_agg w op 55 x y xs ys (by kernel_rfl)
theorem ta56 : TAgg Try.prog 56 2 := fun _ => ⟨by kernel_rfl, by kernel_rfl⟩
theorem ts56 : TSize Try.prog 56 2 := fun _ => by kernel_rfl
theorem fo56_0 : FOff Try.prog 56 0 0 := fun _ _ => by kernel_rfl
theorem fo56_1 : FOff Try.prog 56 1 1 := fun _ _ => by kernel_rfl
theorem se56 (x0 x1 y0 y1 : Int) (w : World) : (binOp .eql 56 (.agg #[.int .i64 x0, .int .i64 x1]) (.agg #[.int .i64 y0, .int .i64 y1])).run Try.prog w = .ok (.bool (decide ((x0, x1) = (y0, y1)))) w := by
  go_simp
  by_cases h0 : x0 = y0 <;> by_cases h1 : x1 = y1 <;> simp [h0, h1]
theorem sn56 (x0 x1 y0 y1 : Int) (w : World) : (binOp .neq 56 (.agg #[.int .i64 x0, .int .i64 x1]) (.agg #[.int .i64 y0, .int .i64 y1])).run Try.prog w = .ok (.bool (!decide ((x0, x1) = (y0, y1)))) w := by
  go_simp
  by_cases h0 : x0 = y0 <;> by_cases h1 : x1 = y1 <;> simp [h0, h1]
theorem sg56 : TGuard Try.prog 56 := fun op x y xs ys w => run_eqGuard_agg w op 56 x y xs ys (by kernel_rfl)
theorem to57 : TOne Try.prog 57 := fun _ => by kernel_rfl
theorem ts57 : TSize Try.prog 57 1 := fun _ => by kernel_rfl
theorem tl57 : TSlice Try.prog 57 2 := ⟨56, by kernel_rfl, fun _ => by kernel_rfl⟩
theorem tu57 : Try.prog.underlying 57 = some (.slice 56) := by kernel_rfl
theorem tp57 : TApp Try.prog 57 56 2 16 := tapp_of (z := .agg #[.int .i64 0, .int .i64 0]) (by kernel_rfl) (by kernel_rfl) (by kernel_rfl) (by decide)
theorem ta58 : TAgg Try.prog 58 3 := fun _ => ⟨by kernel_rfl, by kernel_rfl⟩
theorem ts58 : TSize Try.prog 58 3 := fun _ => by kernel_rfl
abbrev R58 : Rep ((List (Int × Int)) × Int × Int) := (Rep.pr R57 (Rep.pr R3 R3))
abbrev X58 : Ex R58 ((Option Addr × Nat) × Unit × Unit) := (Ex.pr X57 (Ex.pr (Ex.fl E3) (Ex.fl E3)))
theorem fo58_0 : FOff Try.prog 58 0 0 := fun _ _ => by kernel_rfl
theorem fo58_1 : FOff Try.prog 58 1 1 := fun _ _ => by kernel_rfl
theorem fo58_2 : FOff Try.prog 58 2 2 := fun _ _ => by kernel_rfl
theorem ta59 : TAgg Try.prog 59 3 := fun _ => ⟨by kernel_rfl, by kernel_rfl⟩
theorem ts59 : TSize Try.prog 59 3 := fun _ => by kernel_rfl
theorem fo59_0 : FOff Try.prog 59 0 0 := fun _ _ => by kernel_rfl
theorem fo59_1 : FOff Try.prog 59 1 1 := fun _ _ => by kernel_rfl
theorem fo59_2 : FOff Try.prog 59 2 2 := fun _ _ => by kernel_rfl
theorem to60 : TOne Try.prog 60 := fun _ => by kernel_rfl
theorem ts60 : TSize Try.prog 60 1 := fun _ => by kernel_rfl
theorem to61 : TOne Try.prog 61 := fun _ => by kernel_rfl
theorem ts61 : TSize Try.prog 61 1 := fun _ => by kernel_rfl
theorem to62 : TOne Try.prog 62 := fun _ => by kernel_rfl
theorem ts62 : TSize Try.prog 62 1 := fun _ => by kernel_rfl
theorem to63 : TOne Try.prog 63 := fun _ => by kernel_rfl
theorem ts63 : TSize Try.prog 63 1 := fun _ => by kernel_rfl
theorem ta64 : TAgg Try.prog 64 2 := fun _ => ⟨by kernel_rfl, by kernel_rfl⟩
theorem ts64 : TSize Try.prog 64 2 := fun _ => by kernel_rfl
abbrev R64 : Rep ((List Int) × Int) := (Rep.pr R33 R3)
abbrev X64 : Ex R64 ((Option Addr × Nat) × Unit) := (Ex.pr X33 (Ex.fl E3))
theorem fo64_0 : FOff Try.prog 64 0 0 := fun _ _ => by kernel_rfl
theorem fo64_1 : FOff Try.prog 64 1 1 := fun _ _ => by kernel_rfl
theorem ta65 : TAgg Try.prog 65 2 := fun _ => ⟨by kernel_rfl, by kernel_rfl⟩
theorem ts65 : TSize Try.prog 65 2 := fun _ => by kernel_rfl
abbrev R65 : Rep ((List Int) × Int) := (Rep.pr R33 R3)
abbrev X65 : Ex R65 ((Option Addr × Nat) × Unit) := (Ex.pr X33 (Ex.fl E3))
theorem fo65_0 : FOff Try.prog 65 0 0 := fun _ _ => by kernel_rfl
theorem fo65_1 : FOff Try.prog 65 1 1 := fun _ _ => by kernel_rfl
theorem ta66 : TAgg Try.prog 66 4 := fun _ => ⟨by kernel_rfl, by kernel_rfl⟩
theorem ts66 : TSize Try.prog 66 4 := fun _ => by kernel_rfl
abbrev R66 : Rep (((List Int) × Int) × (Int × Int)) := (Rep.pr R65 R56)
abbrev X66 : Ex R66 (((Option Addr × Nat) × Unit) × Unit) := (Ex.pr X65 (Ex.fl E56))
theorem fo66_0 : FOff Try.prog 66 0 0 := fun _ _ => by kernel_rfl
theorem fo66_1 : FOff Try.prog 66 1 2 := fun _ _ => by kernel_rfl
theorem ta67 : TAgg Try.prog 67 4 := fun _ => ⟨by kernel_rfl, by kernel_rfl⟩
theorem ts67 : TSize Try.prog 67 4 := fun _ => by kernel_rfl
abbrev R67 : Rep (((List Int) × Int) × (Int × Int)) := (Rep.pr R65 R56)
abbrev X67 : Ex R67 (((Option Addr × Nat) × Unit) × Unit) := (Ex.pr X65 (Ex.fl E56))
theorem fo67_0 : FOff Try.prog 67 0 0 := fun _ _ => by kernel_rfl
theorem fo67_1 : FOff Try.prog 67 1 2 := fun _ _ => by kernel_rfl
theorem ta68 : TAgg Try.prog 68 1 := fun _ => ⟨by kernel_rfl, by kernel_rfl⟩
theorem ts68 : TSize Try.prog 68 1 := fun _ => by kernel_rfl
def E68 : En (Int) := (En.int .i64)
abbrev R68 : Rep (Int) := Rep.fl E68
theorem fo68_0 : FOff Try.prog 68 0 0 := fun _ _ => by kernel_rfl
theorem se68 (x0 y0 : Int) (w : World) : (binOp .eql 68 (.agg #[.int .i64 x0]) (.agg #[.int .i64 y0])).run Try.prog w = .ok (.bool (decide (x0 = y0))) w := by
  go_simp
  by_cases h0 : x0 = y0 <;> simp [h0]
theorem sn68 (x0 y0 : Int) (w : World) : (binOp .neq 68 (.agg #[.int .i64 x0]) (.agg #[.int .i64 y0])).run Try.prog w = .ok (.bool (!decide (x0 = y0))) w := by
  go_simp
  by_cases h0 : x0 = y0 <;> simp [h0]
theorem sg68 : TGuard Try.prog 68 := fun op x y xs ys w => run_eqGuard_agg w op 68 x y xs ys (by kernel_rfl)
theorem ta69 : TAgg Try.prog 69 1 := fun _ => ⟨by kernel_rfl, by kernel_rfl⟩
theorem ts69 : TSize Try.prog 69 1 := fun _ => by kernel_rfl
def E69 : En (Int) := (En.int .i64)
abbrev R69 : Rep (Int) := Rep.fl E69
theorem fo69_0 : FOff Try.prog 69 0 0 := fun _ _ => by kernel_rfl
theorem se69 (x0 y0 : Int) (w : World) : (binOp .eql 69 (.agg #[.int .i64 x0]) (.agg #[.int .i64 y0])).run Try.prog w = .ok (.bool (decide (x0 = y0))) w := by
  go_simp
  by_cases h0 : x0 = y0 <;> simp [h0]
theorem sn69 (x0 y0 : Int) (w : World) : (binOp .neq 69 (.agg #[.int .i64 x0]) (.agg #[.int .i64 y0])).run Try.prog w = .ok (.bool (!decide (x0 = y0))) w := by
  go_simp
  by_cases h0 : x0 = y0 <;> simp [h0]
theorem sg69 : TGuard Try.prog 69 := fun op x y xs ys w => run_eqGuard_agg w op 69 x y xs ys (by kernel_rfl)
theorem to70 : TOne Try.prog 70 := fun _ => by kernel_rfl
theorem ts70 : TSize Try.prog 70 1 := fun _ => by kernel_rfl
theorem ta71 : TAgg Try.prog 71 3 := fun _ => ⟨by kernel_rfl, by kernel_rfl⟩
theorem ts71 : TSize Try.prog 71 3 := fun _ => by kernel_rfl
abbrev R71 : Rep ((List Int) × Int × Int) := (Rep.pr R33 (Rep.pr R3 R3))
abbrev X71 : Ex R71 ((Option Addr × Nat) × Unit × Unit) := (Ex.pr X33 (Ex.pr (Ex.fl E3) (Ex.fl E3)))
theorem fo71_0 : FOff Try.prog 71 0 0 := fun _ _ => by kernel_rfl
theorem fo71_1 : FOff Try.prog 71 1 1 := fun _ _ => by kernel_rfl
theorem fo71_2 : FOff Try.prog 71 2 2 := fun _ _ => by kernel_rfl
theorem ta72 : TAgg Try.prog 72 3 := fun _ => ⟨by kernel_rfl, by kernel_rfl⟩
theorem ts72 : TSize Try.prog 72 3 := fun _ => by kernel_rfl
abbrev R72 : Rep ((List Int) × Int × Int) := (Rep.pr R33 (Rep.pr R3 R3))
abbrev X72 : Ex R72 ((Option Addr × Nat) × Unit × Unit) := (Ex.pr X33 (Ex.pr (Ex.fl E3) (Ex.fl E3)))
theorem fo72_0 : FOff Try.prog 72 0 0 := fun _ _ => by kernel_rfl
theorem fo72_1 : FOff Try.prog 72 1 1 := fun _ _ => by kernel_rfl
theorem fo72_2 : FOff Try.prog 72 2 2 := fun _ _ => by kernel_rfl
theorem ta73 : TAgg Try.prog 73 2 := fun _ => ⟨by kernel_rfl, by kernel_rfl⟩
theorem ts73 : TSize Try.prog 73 2 := fun _ => by kernel_rfl
theorem fo73_0 : FOff Try.prog 73 0 0 := fun _ _ => by kernel_rfl
theorem fo73_1 : FOff Try.prog 73 1 1 := fun _ _ => by kernel_rfl
theorem se73 (x0 x1 y0 y1 : Int) (w : World) : (binOp .eql 73 (.agg #[.int .i64 x0, .int .i64 x1]) (.agg #[.int .i64 y0, .int .i64 y1])).run Try.prog w = .ok (.bool (decide ((x0, x1) = (y0, y1)))) w := by
  go_simp
  by_cases h0 : x0 = y0 <;> by_cases h1 : x1 = y1 <;> simp [h0, h1]
theorem sn73 (x0 x1 y0 y1 : Int) (w : World) : (binOp .neq 73 (.agg #[.int .i64 x0, .int .i64 x1]) (.agg #[.int .i64 y0, .int .i64 y1])).run Try.prog w = .ok (.bool (!decide ((x0, x1) = (y0, y1)))) w := by
  go_simp
  by_cases h0 : x0 = y0 <;> by_cases h1 : x1 = y1 <;> simp [h0, h1]
theorem sg73 : TGuard Try.prog 73 := fun op x y xs ys w => run_eqGuard_agg w op 73 x y xs ys (by kernel_rfl)
theorem to75 : TOne Try.prog 75 := fun _ => by kernel_rfl
theorem ts75 : TSize Try.prog 75 1 := fun _ => by kernel_rfl
theorem to76 : TOne Try.prog 76 := fun _ => by kernel_rfl
theorem ts76 : TSize Try.prog 76 1 := fun _ => by kernel_rfl
theorem tl76 : TSlice Try.prog 76 2 := ⟨73, by kernel_rfl, fun _ => by kernel_rfl⟩
theorem tu76 : Try.prog.underlying 76 = some (.slice 73) := by kernel_rfl
theorem tp76 : TApp Try.prog 76 73 2 16 := tapp_of (z := .agg #[.int .i64 0, .int .i64 0]) (by kernel_rfl) (by kernel_rfl) (by kernel_rfl) (by decide)
theorem ta77 : TAgg Try.prog 77 3 := fun _ => ⟨by kernel_rfl, by kernel_rfl⟩
theorem ts77 : TSize Try.prog 77 3 := fun _ => by kernel_rfl
abbrev R77 : Rep ((List (Int × Int)) × Int × Int) := (Rep.pr R76 (Rep.pr R3 R3))
abbrev X77 : Ex R77 ((Option Addr × Nat) × Unit × Unit) := (Ex.pr X76 (Ex.pr (Ex.fl E3) (Ex.fl E3)))
theorem fo77_0 : FOff Try.prog 77 0 0 := fun _ _ => by kernel_rfl
theorem fo77_1 : FOff Try.prog 77 1 1 := fun _ _ => by kernel_rfl
theorem fo77_2 : FOff Try.prog 77 2 2 := fun _ _ => by kernel_rfl
theorem ta78 : TAgg Try.prog 78 3 := fun _ => ⟨by kernel_rfl, by kernel_rfl⟩
theorem ts78 : TSize Try.prog 78 3 := fun _ => by kernel_rfl
theorem fo78_0 : FOff Try.prog 78 0 0 := fun _ _ => by kernel_rfl
theorem fo78_1 : FOff Try.prog 78 1 1 := fun _ _ => by kernel_rfl
theorem fo78_2 : FOff Try.prog 78 2 2 := fun _ _ => by kernel_rfl
theorem to79 : TOne Try.prog 79 := fun _ => by kernel_rfl
theorem ts79 : TSize Try.prog 79 1 := fun _ => by kernel_rfl
theorem to80 : TOne Try.prog 80 := fun _ => by kernel_rfl
theorem ts80 : TSize Try.prog 80 1 := fun _ => by kernel_rfl
theorem to81 : TOne Try.prog 81 := fun _ => by kernel_rfl
theorem ts81 : TSize Try.prog 81 1 := fun _ => by kernel_rfl
theorem to82 : TOne Try.prog 82 := fun _ => by kernel_rfl
theorem ts82 : TSize Try.prog 82 1 := fun _ => by kernel_rfl
theorem to83 : TOne Try.prog 83 := fun _ => by kernel_rfl
theorem ts83 : TSize Try.prog 83 1 := fun _ => by kernel_rfl
theorem to84 : TOne Try.prog 84 := fun _ => by kernel_rfl
theorem ts84 : TSize Try.prog 84 1 := fun _ => by kernel_rfl
theorem to85 : TOne Try.prog 85 := fun _ => by kernel_rfl
theorem ts85 : TSize Try.prog 85 1 := fun _ => by kernel_rfl
theorem to86 : TOne Try.prog 86 := fun _ => by kernel_rfl
theorem ts86 : TSize Try.prog 86 1 := fun _ => by kernel_rfl
theorem to87 : TOne Try.prog 87 := fun _ => by kernel_rfl
theorem ts87 : TSize Try.prog 87 1 := fun _ => by kernel_rfl
abbrev R87 : Rep (List Int) := Rep.sl R26
abbrev X87 : Ex R87 (Option Addr × Nat) := Ex.sl R26
theorem tl87 : TSlice Try.prog 87 1 := ⟨26, by kernel_rfl, fun _ => by kernel_rfl⟩
theorem tu87 : Try.prog.underlying 87 = some (.slice 26) := by kernel_rfl
theorem tp87 : TApp Try.prog 87 26 1 8 := tapp_of (z := .int .u64 0) (by kernel_rfl) (by kernel_rfl) (by kernel_rfl) (by decide)
theorem to88 : TOne Try.prog 88 := fun _ => by kernel_rfl
theorem ts88 : TSize Try.prog 88 1 := fun _ => by kernel_rfl
theorem to89 : TOne Try.prog 89 := fun _ => by kernel_rfl
theorem ts89 : TSize Try.prog 89 1 := fun _ => by kernel_rfl
theorem to90 : TOne Try.prog 90 := fun _ => by kernel_rfl
theorem ts90 : TSize Try.prog 90 1 := fun _ => by kernel_rfl
theorem to91 : TOne Try.prog 91 := fun _ => by kernel_rfl
theorem ts91 : TSize Try.prog 91 1 := fun _ => by kernel_rfl
theorem to92 : TOne Try.prog 92 := fun _ => by kernel_rfl
theorem ts92 : TSize Try.prog 92 1 := fun _ => by kernel_rfl
theorem to93 : TOne Try.prog 93 := fun _ => by kernel_rfl
theorem ts93 : TSize Try.prog 93 1 := fun _ => by kernel_rfl
theorem to94 : TOne Try.prog 94 := fun _ => by kernel_rfl
theorem ts94 : TSize Try.prog 94 1 := fun _ => by kernel_rfl
theorem to95 : TOne Try.prog 95 := fun _ => by kernel_rfl
theorem ts95 : TSize Try.prog 95 1 := fun _ => by kernel_rfl
theorem to96 : TOne Try.prog 96 := fun _ => by kernel_rfl
theorem ts96 : TSize Try.prog 96 1 := fun _ => by kernel_rfl
theorem to97 : TOne Try.prog 97 := fun _ => by kernel_rfl
theorem ts97 : TSize Try.prog 97 1 := fun _ => by kernel_rfl
theorem to98 : TOne Try.prog 98 := fun _ => by kernel_rfl
theorem ts98 : TSize Try.prog 98 1 := fun _ => by kernel_rfl
theorem to99 : TOne Try.prog 99 := fun _ => by kernel_rfl
theorem ts99 : TSize Try.prog 99 1 := fun _ => by kernel_rfl
theorem to100 : TOne Try.prog 100 := fun _ => by kernel_rfl
theorem ts100 : TSize Try.prog 100 1 := fun _ => by kernel_rfl
theorem to101 : TOne Try.prog 101 := fun _ => by kernel_rfl
theorem ts101 : TSize Try.prog 101 1 := fun _ => by kernel_rfl
theorem to103 : TOne Try.prog 103 := fun _ => by kernel_rfl
theorem ts103 : TSize Try.prog 103 1 := fun _ => by kernel_rfl
theorem to104 : TOne Try.prog 104 := fun _ => by kernel_rfl
theorem ts104 : TSize Try.prog 104 1 := fun _ => by kernel_rfl
theorem to105 : TOne Try.prog 105 := fun _ => by kernel_rfl
theorem ts105 : TSize Try.prog 105 1 := fun _ => by kernel_rfl
theorem to106 : TOne Try.prog 106 := fun _ => by kernel_rfl
theorem ts106 : TSize Try.prog 106 1 := fun _ => by kernel_rfl
def E106 : En (Int) := (En.int .u64)
abbrev R106 : Rep (Int) := Rep.fl E106
theorem tn106 : Try.prog.underlying 106 = some (.int .u64) := by kernel_rfl
theorem to107 : TOne Try.prog 107 := fun _ => by kernel_rfl
theorem ts107 : TSize Try.prog 107 1 := fun _ => by kernel_rfl
theorem to108 : TOne Try.prog 108 := fun _ => by kernel_rfl
theorem ts108 : TSize Try.prog 108 1 := fun _ => by kernel_rfl
theorem to109 : TOne Try.prog 109 := fun _ => by kernel_rfl
theorem ts109 : TSize Try.prog 109 1 := fun _ => by kernel_rfl
theorem to110 : TOne Try.prog 110 := fun _ => by kernel_rfl
theorem ts110 : TSize Try.prog 110 1 := fun _ => by kernel_rfl
theorem to111 : TOne Try.prog 111 := fun _ => by kernel_rfl
theorem ts111 : TSize Try.prog 111 1 := fun _ => by kernel_rfl
theorem to113 : TOne Try.prog 113 := fun _ => by kernel_rfl
theorem ts113 : TSize Try.prog 113 1 := fun _ => by kernel_rfl
theorem to115 : TOne Try.prog 115 := fun _ => by kernel_rfl
theorem ts115 : TSize Try.prog 115 1 := fun _ => by kernel_rfl
theorem to116 : TOne Try.prog 116 := fun _ => by kernel_rfl
theorem ts116 : TSize Try.prog 116 1 := fun _ => by kernel_rfl
theorem to117 : TOne Try.prog 117 := fun _ => by kernel_rfl
theorem ts117 : TSize Try.prog 117 1 := fun _ => by kernel_rfl
theorem to118 : TOne Try.prog 118 := fun _ => by kernel_rfl
theorem ts118 : TSize Try.prog 118 1 := fun _ => by kernel_rfl
theorem ta119 : TAgg Try.prog 119 4 := fun _ => ⟨by kernel_rfl, by kernel_rfl⟩
theorem ts119 : TSize Try.prog 119 4 := fun _ => by kernel_rfl
theorem fo119_0 : FOff Try.prog 119 0 0 := fun _ _ => by kernel_rfl
theorem fo119_1 : FOff Try.prog 119 1 1 := fun _ _ => by kernel_rfl
theorem fo119_2 : FOff Try.prog 119 2 2 := fun _ _ => by kernel_rfl
theorem fo119_3 : FOff Try.prog 119 3 3 := fun _ _ => by kernel_rfl
theorem ta120 : TAgg Try.prog 120 4 := fun _ => ⟨by kernel_rfl, by kernel_rfl⟩
theorem ts120 : TSize Try.prog 120 4 := fun _ => by kernel_rfl
theorem fo120_0 : FOff Try.prog 120 0 0 := fun _ _ => by kernel_rfl
theorem fo120_1 : FOff Try.prog 120 1 1 := fun _ _ => by kernel_rfl
theorem fo120_2 : FOff Try.prog 120 2 2 := fun _ _ => by kernel_rfl
theorem fo120_3 : FOff Try.prog 120 3 3 := fun _ _ => by kernel_rfl
theorem ta121 : TAgg Try.prog 121 0 := fun _ => ⟨by kernel_rfl, by kernel_rfl⟩
theorem ts121 : TSize Try.prog 121 0 := fun _ => by kernel_rfl
theorem tr121 : Try.prog.underlying 121 = some (.array 0 16) := by kernel_rfl
theorem ta122 : TAgg Try.prog 122 0 := fun _ => ⟨by kernel_rfl, by kernel_rfl⟩
theorem ts122 : TSize Try.prog 122 0 := fun _ => by kernel_rfl
theorem ta123 : TAgg Try.prog 123 0 := fun _ => ⟨by kernel_rfl, by kernel_rfl⟩
theorem ts123 : TSize Try.prog 123 0 := fun _ => by kernel_rfl
theorem to124 : TOne Try.prog 124 := fun _ => by kernel_rfl
theorem ts124 : TSize Try.prog 124 1 := fun _ => by kernel_rfl
theorem to125 : TOne Try.prog 125 := fun _ => by kernel_rfl
theorem ts125 : TSize Try.prog 125 1 := fun _ => by kernel_rfl
def E125 : En (Int) := (En.int .u32)
abbrev R125 : Rep (Int) := Rep.fl E125
theorem tn125 : Try.prog.underlying 125 = some (.int .u32) := by kernel_rfl
theorem to126 : TOne Try.prog 126 := fun _ => by kernel_rfl
theorem ts126 : TSize Try.prog 126 1 := fun _ => by kernel_rfl
def E126 : En (Int) := (En.int .u8)
abbrev R126 : Rep (Int) := Rep.fl E126
theorem tn126 : Try.prog.underlying 126 = some (.int .u8) := by kernel_rfl
theorem to127 : TOne Try.prog 127 := fun _ => by kernel_rfl
theorem ts127 : TSize Try.prog 127 1 := fun _ => by kernel_rfl
def E127 : En (Int) := (En.int .u8)
abbrev R127 : Rep (Int) := Rep.fl E127
theorem tn127 : Try.prog.underlying 127 = some (.int .u8) := by kernel_rfl
theorem to128 : TOne Try.prog 128 := fun _ => by kernel_rfl
theorem ts128 : TSize Try.prog 128 1 := fun _ => by kernel_rfl
theorem to129 : TOne Try.prog 129 := fun _ => by kernel_rfl
theorem ts129 : TSize Try.prog 129 1 := fun _ => by kernel_rfl
theorem to130 : TOne Try.prog 130 := fun _ => by kernel_rfl
theorem ts130 : TSize Try.prog 130 1 := fun _ => by kernel_rfl
def E130 : En (Int) := (En.int .i32)
abbrev R130 : Rep (Int) := Rep.fl E130
theorem tn130 : Try.prog.underlying 130 = some (.int .i32) := by kernel_rfl
theorem to131 : TOne Try.prog 131 := fun _ => by kernel_rfl
theorem ts131 : TSize Try.prog 131 1 := fun _ => by kernel_rfl
def E131 : En (Int) := (En.int .i32)
abbrev R131 : Rep (Int) := Rep.fl E131
theorem tn131 : Try.prog.underlying 131 = some (.int .i32) := by kernel_rfl
theorem ta132 : TAgg Try.prog 132 11 := fun _ => ⟨by kernel_rfl, by kernel_rfl⟩
theorem ts132 : TSize Try.prog 132 11 := fun _ => by kernel_rfl
theorem fo132_0 : FOff Try.prog 132 0 0 := fun _ _ => by kernel_rfl
theorem fo132_1 : FOff Try.prog 132 1 1 := fun _ _ => by kernel_rfl
theorem fo132_2 : FOff Try.prog 132 2 2 := fun _ _ => by kernel_rfl
theorem fo132_3 : FOff Try.prog 132 3 3 := fun _ _ => by kernel_rfl
theorem fo132_4 : FOff Try.prog 132 4 4 := fun _ _ => by kernel_rfl
theorem fo132_5 : FOff Try.prog 132 5 5 := fun _ _ => by kernel_rfl
theorem fo132_6 : FOff Try.prog 132 6 6 := fun _ _ => by kernel_rfl
theorem fo132_7 : FOff Try.prog 132 7 7 := fun _ _ => by kernel_rfl
theorem fo132_8 : FOff Try.prog 132 8 8 := fun _ _ => by kernel_rfl
theorem fo132_9 : FOff Try.prog 132 9 9 := fun _ _ => by kernel_rfl
theorem fo132_10 : FOff Try.prog 132 10 10 := fun _ _ => by kernel_rfl
theorem ta133 : TAgg Try.prog 133 11 := fun _ => ⟨by kernel_rfl, by kernel_rfl⟩
theorem ts133 : TSize Try.prog 133 11 := fun _ => by kernel_rfl
theorem fo133_0 : FOff Try.prog 133 0 0 := fun _ _ => by kernel_rfl
theorem fo133_1 : FOff Try.prog 133 1 1 := fun _ _ => by kernel_rfl
theorem fo133_2 : FOff Try.prog 133 2 2 := fun _ _ => by kernel_rfl
theorem fo133_3 : FOff Try.prog 133 3 3 := fun _ _ => by kernel_rfl
theorem fo133_4 : FOff Try.prog 133 4 4 := fun _ _ => by kernel_rfl
theorem fo133_5 : FOff Try.prog 133 5 5 := fun _ _ => by kernel_rfl
theorem fo133_6 : FOff Try.prog 133 6 6 := fun _ _ => by kernel_rfl
theorem fo133_7 : FOff Try.prog 133 7 7 := fun _ _ => by kernel_rfl
theorem fo133_8 : FOff Try.prog 133 8 8 := fun _ _ => by kernel_rfl
theorem fo133_9 : FOff Try.prog 133 9 9 := fun _ _ => by kernel_rfl
theorem fo133_10 : FOff Try.prog 133 10 10 := fun _ _ => by kernel_rfl
theorem cf2 : CF Try.prog 2 := fun _ _ => by kernel_rfl
theorem cf3 : CF Try.prog 3 := fun _ _ => by kernel_rfl
theorem cf4 : CF Try.prog 4 := fun _ _ => by kernel_rfl
theorem cf5 : CF Try.prog 5 := fun _ _ => by kernel_rfl
theorem cf6 : CF Try.prog 6 := fun _ _ => by kernel_rfl
theorem cf7 : CF Try.prog 7 := fun _ _ => by kernel_rfl
theorem cf8 : CF Try.prog 8 := fun _ _ => by kernel_rfl
theorem cf9 : CF Try.prog 9 := fun _ _ => by kernel_rfl
theorem cf10 : CF Try.prog 10 := fun _ _ => by kernel_rfl
theorem cf11 : CF Try.prog 11 := fun _ _ => by kernel_rfl
theorem cf12 : CF Try.prog 12 := fun _ _ => by kernel_rfl
theorem cf13 : CF Try.prog 13 := fun _ _ => by kernel_rfl
theorem cf14 : CF Try.prog 14 := fun _ _ => by kernel_rfl
theorem cf15 : CF Try.prog 15 := fun _ _ => by kernel_rfl
theorem cf16 : CF Try.prog 16 := fun _ _ => by kernel_rfl
theorem cf17 : CF Try.prog 17 := fun _ _ => by kernel_rfl
theorem cf18 : CF Try.prog 18 := fun _ _ => by kernel_rfl
theorem cf19 : CF Try.prog 19 := fun _ _ => by kernel_rfl
theorem cf20 : CF Try.prog 20 := fun _ _ => by kernel_rfl
theorem cf21 : CF Try.prog 21 := fun _ _ => by kernel_rfl
theorem cf22 : CF Try.prog 22 := fun _ _ => by kernel_rfl
theorem cf23 : CF Try.prog 23 := fun _ _ => by kernel_rfl
theorem cf24 : CF Try.prog 24 := fun _ _ => by kernel_rfl
theorem cf25 : CF Try.prog 25 := fun _ _ => by kernel_rfl
theorem cf26 : CF Try.prog 26 := fun _ _ => by kernel_rfl
theorem cf27 : CF Try.prog 27 := fun _ _ => by kernel_rfl
theorem cf28 : CF Try.prog 28 := fun _ _ => by kernel_rfl
theorem cf29 : CF Try.prog 29 := fun _ _ => by kernel_rfl
theorem cf30 : CF Try.prog 30 := fun _ _ => by kernel_rfl
theorem cf31 : CF Try.prog 31 := fun _ _ => by kernel_rfl
theorem cf32 : CF Try.prog 32 := fun _ _ => by kernel_rfl
theorem cf33 : CF Try.prog 33 := fun _ _ => by kernel_rfl
theorem cf34 : CF Try.prog 34 := fun _ _ => by kernel_rfl
theorem cf35 : CF Try.prog 35 := fun _ _ => by kernel_rfl
theorem cf36 : CF Try.prog 36 := fun _ _ => by kernel_rfl
theorem cf37 : CF Try.prog 37 := fun _ _ => by kernel_rfl
theorem cf38 : CF Try.prog 38 := fun _ _ => by kernel_rfl
theorem cf39 : CF Try.prog 39 := fun _ _ => by kernel_rfl
theorem cf40 : CF Try.prog 40 := fun _ _ => by kernel_rfl
theorem cf41 : CF Try.prog 41 := fun _ _ => by kernel_rfl
theorem cf42 : CF Try.prog 42 := fun _ _ => by kernel_rfl
theorem cf43 : CF Try.prog 43 := fun _ _ => by kernel_rfl
theorem cf44 : CF Try.prog 44 := fun _ _ => by kernel_rfl
theorem cf45 : CF Try.prog 45 := fun _ _ => by kernel_rfl
theorem cf46 : CF Try.prog 46 := fun _ _ => by kernel_rfl
theorem cf47 : CF Try.prog 47 := fun _ _ => by kernel_rfl
theorem cf48 : CF Try.prog 48 := fun _ _ => by kernel_rfl
theorem cf49 : CF Try.prog 49 := fun _ _ => by kernel_rfl
theorem cf50 : CF Try.prog 50 := fun _ _ => by kernel_rfl
theorem cf51 : CF Try.prog 51 := fun _ _ => by kernel_rfl
theorem cf52 : CF Try.prog 52 := fun _ _ => by kernel_rfl
theorem cf53 : CF Try.prog 53 := fun _ _ => by kernel_rfl
theorem cf54 : CF Try.prog 54 := fun _ _ => by kernel_rfl
theorem cf55 : CF Try.prog 55 := fun _ _ => by kernel_rfl
theorem cf56 : CF Try.prog 56 := fun _ _ => by kernel_rfl
theorem cf57 : CF Try.prog 57 := fun _ _ => by kernel_rfl
theorem cf58 : CF Try.prog 58 := fun _ _ => by kernel_rfl
theorem cf59 : CF Try.prog 59 := fun _ _ => by kernel_rfl
theorem cf60 : CF Try.prog 60 := fun _ _ => by kernel_rfl
theorem cf61 : CF Try.prog 61 := fun _ _ => by kernel_rfl
theorem cf62 : CF Try.prog 62 := fun _ _ => by kernel_rfl
theorem cf63 : CF Try.prog 63 := fun _ _ => by kernel_rfl
theorem cf64 : CF Try.prog 64 := fun _ _ => by kernel_rfl
theorem cf65 : CF Try.prog 65 := fun _ _ => by kernel_rfl
end Go.Proofs.Ytaobbaohelpdgaa
