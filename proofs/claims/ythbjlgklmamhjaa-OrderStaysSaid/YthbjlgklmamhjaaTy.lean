/-
  Closed facts on the types and functions of the program at hand, for the walks.
-/
import Derived.Test.YthbjlgklmamhjaaNest
import Derived.Test.YthbjlgklmamhjaaFl
import Derived.Test.YthbjlgklmamhjaaProg
import Derived.Laws.StructEq
import Derived.WalkKit
namespace Go.Proofs.Ythbjlgklmamhjaa
open Go.RowKit
theorem g_mixed : Try.prog.follows .mixedOrders = true := by kernel_rfl
theorem to1 : TOne Try.prog 1 := fun _ => by kernel_rfl
theorem ts1 : TSize Try.prog 1 1 := fun _ => by kernel_rfl
theorem to2 : TOne Try.prog 2 := fun _ => by kernel_rfl
theorem ts2 : TSize Try.prog 2 1 := fun _ => by kernel_rfl
def E2 : En (Int) := (En.int .i64)
abbrev R2 : Rep (Int) := Rep.fl E2
theorem tn2 : Try.prog.underlying 2 = some (.int .i64) := by kernel_rfl
theorem to3 : TOne Try.prog 3 := fun _ => by kernel_rfl
theorem ts3 : TSize Try.prog 3 1 := fun _ => by kernel_rfl
def E3 : En (Int) := (En.int .i64)
abbrev R3 : Rep (Int) := Rep.fl E3
theorem tn3 : Try.prog.underlying 3 = some (.int .i64) := by kernel_rfl
theorem to4 : TOne Try.prog 4 := fun _ => by kernel_rfl
theorem ts4 : TSize Try.prog 4 1 := fun _ => by kernel_rfl
def E4 : En (Bool) := En.bool
abbrev R4 : Rep (Bool) := Rep.fl E4
theorem tb4 : Try.prog.underlying 4 = some .bool := by kernel_rfl
theorem to5 : TOne Try.prog 5 := fun _ => by kernel_rfl
theorem ts5 : TSize Try.prog 5 1 := fun _ => by kernel_rfl
def E5 : En (Int) := (En.int .u8)
abbrev R5 : Rep (Int) := Rep.fl E5
theorem tn5 : Try.prog.underlying 5 = some (.int .u8) := by kernel_rfl
theorem to6 : TOne Try.prog 6 := fun _ => by kernel_rfl
theorem ts6 : TSize Try.prog 6 1 := fun _ => by kernel_rfl
def E6 : En (Int) := (En.int .u8)
abbrev R6 : Rep (Int) := Rep.fl E6
theorem tn6 : Try.prog.underlying 6 = some (.int .u8) := by kernel_rfl
theorem ta7 : TAgg Try.prog 7 4 := fun _ => ⟨by kernel_rfl, by kernel_rfl⟩
theorem ts7 : TSize Try.prog 7 4 := fun _ => by kernel_rfl
def E7 : En (Int × Int × Bool × Int) := (En.pr (En.int .i64) (En.pr (En.int .i64) (En.pr En.bool (En.int .u8))))
abbrev R7 : Rep (Int × Int × Bool × Int) := Rep.fl E7
theorem fo7_0 : FOff Try.prog 7 0 0 := fun _ _ => by kernel_rfl
theorem fo7_1 : FOff Try.prog 7 1 1 := fun _ _ => by kernel_rfl
theorem fo7_2 : FOff Try.prog 7 2 2 := fun _ _ => by kernel_rfl
theorem fo7_3 : FOff Try.prog 7 3 3 := fun _ _ => by kernel_rfl
theorem ta8 : TAgg Try.prog 8 4 := fun _ => ⟨by kernel_rfl, by kernel_rfl⟩
theorem ts8 : TSize Try.prog 8 4 := fun _ => by kernel_rfl
def E8 : En (Int × Int × Bool × Int) := (En.pr (En.int .i64) (En.pr (En.int .i64) (En.pr En.bool (En.int .u8))))
abbrev R8 : Rep (Int × Int × Bool × Int) := Rep.fl E8
theorem fo8_0 : FOff Try.prog 8 0 0 := fun _ _ => by kernel_rfl
theorem fo8_1 : FOff Try.prog 8 1 1 := fun _ _ => by kernel_rfl
theorem fo8_2 : FOff Try.prog 8 2 2 := fun _ _ => by kernel_rfl
theorem fo8_3 : FOff Try.prog 8 3 3 := fun _ _ => by kernel_rfl
theorem to9 : TOne Try.prog 9 := fun _ => by kernel_rfl
theorem ts9 : TSize Try.prog 9 1 := fun _ => by kernel_rfl
def E9 : En (ByteArray) := En.str
abbrev R9 : Rep (ByteArray) := Rep.fl E9
theorem to10 : TOne Try.prog 10 := fun _ => by kernel_rfl
theorem ts10 : TSize Try.prog 10 1 := fun _ => by kernel_rfl
def E10 : En (ByteArray) := En.str
abbrev R10 : Rep (ByteArray) := Rep.fl E10
theorem to11 : TOne Try.prog 11 := fun _ => by kernel_rfl
theorem ts11 : TSize Try.prog 11 1 := fun _ => by kernel_rfl
def E11 : En (ByteArray) := En.str
abbrev R11 : Rep (ByteArray) := Rep.fl E11
theorem to12 : TOne Try.prog 12 := fun _ => by kernel_rfl
theorem ts12 : TSize Try.prog 12 1 := fun _ => by kernel_rfl
def E12 : En (Int) := (En.int .u64)
abbrev R12 : Rep (Int) := Rep.fl E12
theorem tn12 : Try.prog.underlying 12 = some (.int .u64) := by kernel_rfl
theorem ta13 : TAgg Try.prog 13 2 := fun _ => ⟨by kernel_rfl, by kernel_rfl⟩
theorem ts13 : TSize Try.prog 13 2 := fun _ => by kernel_rfl
def E13 : En (ByteArray × Int) := (En.pr En.str (En.int .u64))
abbrev R13 : Rep (ByteArray × Int) := Rep.fl E13
theorem fo13_0 : FOff Try.prog 13 0 0 := fun _ _ => by kernel_rfl
theorem fo13_1 : FOff Try.prog 13 1 1 := fun _ _ => by kernel_rfl
theorem ta14 : TAgg Try.prog 14 2 := fun _ => ⟨by kernel_rfl, by kernel_rfl⟩
theorem ts14 : TSize Try.prog 14 2 := fun _ => by kernel_rfl
def E14 : En (ByteArray × Int) := (En.pr En.str (En.int .u64))
abbrev R14 : Rep (ByteArray × Int) := Rep.fl E14
theorem fo14_0 : FOff Try.prog 14 0 0 := fun _ _ => by kernel_rfl
theorem fo14_1 : FOff Try.prog 14 1 1 := fun _ _ => by kernel_rfl
theorem to15 : TOne Try.prog 15 := fun _ => by kernel_rfl
theorem ts15 : TSize Try.prog 15 1 := fun _ => by kernel_rfl
theorem to16 : TOne Try.prog 16 := fun _ => by kernel_rfl
theorem ts16 : TSize Try.prog 16 1 := fun _ => by kernel_rfl
theorem to17 : TOne Try.prog 17 := fun _ => by kernel_rfl
theorem ts17 : TSize Try.prog 17 1 := fun _ => by kernel_rfl
theorem ta18 : TAgg Try.prog 18 1 := fun _ => ⟨by kernel_rfl, by kernel_rfl⟩
theorem ts18 : TSize Try.prog 18 1 := fun _ => by kernel_rfl
theorem fo18_0 : FOff Try.prog 18 0 0 := fun _ _ => by kernel_rfl
theorem ta19 : TAgg Try.prog 19 1 := fun _ => ⟨by kernel_rfl, by kernel_rfl⟩
theorem ts19 : TSize Try.prog 19 1 := fun _ => by kernel_rfl
theorem fo19_0 : FOff Try.prog 19 0 0 := fun _ _ => by kernel_rfl
theorem to21 : TOne Try.prog 21 := fun _ => by kernel_rfl
theorem ts21 : TSize Try.prog 21 1 := fun _ => by kernel_rfl
def E21 : En (Int) := (En.int .i32)
abbrev R21 : Rep (Int) := Rep.fl E21
theorem tn21 : Try.prog.underlying 21 = some (.int .i32) := by kernel_rfl
theorem to22 : TOne Try.prog 22 := fun _ => by kernel_rfl
theorem ts22 : TSize Try.prog 22 1 := fun _ => by kernel_rfl
abbrev R22 : Rep (List Int) := Rep.sl R3
abbrev X22 : Ex R22 (Option Addr × Nat) := Ex.sl R3
theorem tl22 : TSlice Try.prog 22 1 := ⟨3, by kernel_rfl, fun _ => by kernel_rfl⟩
theorem tu22 : Try.prog.underlying 22 = some (.slice 3) := by kernel_rfl
theorem tp22 : TApp Try.prog 22 3 1 8 := tapp_of (z := .int .i64 0) (by kernel_rfl) (by kernel_rfl) (by kernel_rfl) (by decide)
theorem to23 : TOne Try.prog 23 := fun _ => by kernel_rfl
theorem ts23 : TSize Try.prog 23 1 := fun _ => by kernel_rfl
theorem to25 : TOne Try.prog 25 := fun _ => by kernel_rfl
theorem ts25 : TSize Try.prog 25 1 := fun _ => by kernel_rfl
theorem to27 : TOne Try.prog 27 := fun _ => by kernel_rfl
theorem ts27 : TSize Try.prog 27 1 := fun _ => by kernel_rfl
theorem to28 : TOne Try.prog 28 := fun _ => by kernel_rfl
theorem ts28 : TSize Try.prog 28 1 := fun _ => by kernel_rfl
theorem to29 : TOne Try.prog 29 := fun _ => by kernel_rfl
theorem ts29 : TSize Try.prog 29 1 := fun _ => by kernel_rfl
theorem to30 : TOne Try.prog 30 := fun _ => by kernel_rfl
theorem ts30 : TSize Try.prog 30 1 := fun _ => by kernel_rfl
theorem to31 : TOne Try.prog 31 := fun _ => by kernel_rfl
theorem ts31 : TSize Try.prog 31 1 := fun _ => by kernel_rfl
theorem to32 : TOne Try.prog 32 := fun _ => by kernel_rfl
theorem ts32 : TSize Try.prog 32 1 := fun _ => by kernel_rfl
theorem to33 : TOne Try.prog 33 := fun _ => by kernel_rfl
theorem ts33 : TSize Try.prog 33 1 := fun _ => by kernel_rfl
theorem to34 : TOne Try.prog 34 := fun _ => by kernel_rfl
theorem ts34 : TSize Try.prog 34 1 := fun _ => by kernel_rfl
def E48 : En (Int × Int) := (En.pr (En.int .i64) (En.int .i64))
abbrev R48 : Rep (Int × Int) := Rep.fl E48
abbrev R34 : Rep (List (Int × Int)) := Rep.sl R48
abbrev X34 : Ex R34 (Option Addr × Nat) := Ex.sl R48
theorem tl34 : TSlice Try.prog 34 2 := ⟨48, by kernel_rfl, fun _ => by kernel_rfl⟩
theorem tu34 : Try.prog.underlying 34 = some (.slice 48) := by kernel_rfl
theorem tp34 : TApp Try.prog 34 48 2 16 := tapp_of (z := .agg #[.int .i64 0, .int .i64 0]) (by kernel_rfl) (by kernel_rfl) (by kernel_rfl) (by decide)
theorem to35 : TOne Try.prog 35 := fun _ => by kernel_rfl
theorem ts35 : TSize Try.prog 35 1 := fun _ => by kernel_rfl
abbrev R35 : Rep (List (List Int)) := Rep.sl R22
abbrev X35 : Ex R35 (Option Addr × Nat) := Ex.sl R22
theorem tl35 : TSlice Try.prog 35 1 := ⟨22, by kernel_rfl, fun _ => by kernel_rfl⟩
theorem tu35 : Try.prog.underlying 35 = some (.slice 22) := by kernel_rfl
theorem tp35 : TApp Try.prog 35 22 1 24 := tapp_of (z := .slice none 0 0) (by kernel_rfl) (by kernel_rfl) (by kernel_rfl) (by decide)
theorem to36 : TOne Try.prog 36 := fun _ => by kernel_rfl
theorem ts36 : TSize Try.prog 36 1 := fun _ => by kernel_rfl
theorem to37 : TOne Try.prog 37 := fun _ => by kernel_rfl
theorem ts37 : TSize Try.prog 37 1 := fun _ => by kernel_rfl
theorem to38 : TOne Try.prog 38 := fun _ => by kernel_rfl
theorem ts38 : TSize Try.prog 38 1 := fun _ => by kernel_rfl
theorem to39 : TOne Try.prog 39 := fun _ => by kernel_rfl
theorem ts39 : TSize Try.prog 39 1 := fun _ => by kernel_rfl
def E57 : En (Int × Int) := (En.pr (En.int .i64) (En.int .i64))
abbrev R57 : Rep (Int × Int) := Rep.fl E57
abbrev R39 : Rep (List (Int × Int)) := Rep.sl R57
abbrev X39 : Ex R39 (Option Addr × Nat) := Ex.sl R57
theorem tl39 : TSlice Try.prog 39 2 := ⟨57, by kernel_rfl, fun _ => by kernel_rfl⟩
theorem tu39 : Try.prog.underlying 39 = some (.slice 57) := by kernel_rfl
theorem tp39 : TApp Try.prog 39 57 2 16 := tapp_of (z := .agg #[.int .i64 0, .int .i64 0]) (by kernel_rfl) (by kernel_rfl) (by kernel_rfl) (by decide)
theorem to40 : TOne Try.prog 40 := fun _ => by kernel_rfl
theorem ts40 : TSize Try.prog 40 1 := fun _ => by kernel_rfl
theorem to41 : TOne Try.prog 41 := fun _ => by kernel_rfl
theorem ts41 : TSize Try.prog 41 1 := fun _ => by kernel_rfl
theorem to42 : TOne Try.prog 42 := fun _ => by kernel_rfl
theorem ts42 : TSize Try.prog 42 1 := fun _ => by kernel_rfl
theorem to43 : TOne Try.prog 43 := fun _ => by kernel_rfl
theorem ts43 : TSize Try.prog 43 1 := fun _ => by kernel_rfl
theorem to44 : TOne Try.prog 44 := fun _ => by kernel_rfl
theorem ts44 : TSize Try.prog 44 1 := fun _ => by kernel_rfl
theorem to45 : TOne Try.prog 45 := fun _ => by kernel_rfl
theorem ts45 : TSize Try.prog 45 1 := fun _ => by kernel_rfl
theorem to46 : TOne Try.prog 46 := fun _ => by kernel_rfl
theorem ts46 : TSize Try.prog 46 1 := fun _ => by kernel_rfl
theorem ta47 : TAgg Try.prog 47 2 := fun _ => ⟨by kernel_rfl, by kernel_rfl⟩
theorem ts47 : TSize Try.prog 47 2 := fun _ => by kernel_rfl
def E47 : En (Int × Int) := (En.pr (En.int .i64) (En.int .i64))
abbrev R47 : Rep (Int × Int) := Rep.fl E47
theorem fo47_0 : FOff Try.prog 47 0 0 := fun _ _ => by kernel_rfl
theorem fo47_1 : FOff Try.prog 47 1 1 := fun _ _ => by kernel_rfl
theorem se47 (x0 x1 y0 y1 : Int) (w : World) : (binOp .eql 47 (.agg #[.int .i64 x0, .int .i64 x1]) (.agg #[.int .i64 y0, .int .i64 y1])).run Try.prog w = .ok (.bool (decide ((x0, x1) = (y0, y1)))) w := by
  go_simp
  by_cases h0 : x0 = y0 <;> by_cases h1 : x1 = y1 <;> simp [h0, h1]
theorem sn47 (x0 x1 y0 y1 : Int) (w : World) : (binOp .neq 47 (.agg #[.int .i64 x0, .int .i64 x1]) (.agg #[.int .i64 y0, .int .i64 y1])).run Try.prog w = .ok (.bool (!decide ((x0, x1) = (y0, y1)))) w := by
  go_simp
  by_cases h0 : x0 = y0 <;> by_cases h1 : x1 = y1 <;> simp [h0, h1]
theorem sg47 : TGuard Try.prog 47 := fun op x y xs ys w => run_eqGuard_agg w op 47 x y xs ys (by kernel_rfl)
theorem ta48 : TAgg Try.prog 48 2 := fun _ => ⟨by kernel_rfl, by kernel_rfl⟩
theorem ts48 : TSize Try.prog 48 2 := fun _ => by kernel_rfl
theorem fo48_0 : FOff Try.prog 48 0 0 := fun _ _ => by kernel_rfl
theorem fo48_1 : FOff Try.prog 48 1 1 := fun _ _ => by kernel_rfl
theorem se48 (x0 x1 y0 y1 : Int) (w : World) : (binOp .eql 48 (.agg #[.int .i64 x0, .int .i64 x1]) (.agg #[.int .i64 y0, .int .i64 y1])).run Try.prog w = .ok (.bool (decide ((x0, x1) = (y0, y1)))) w := by
  go_simp
  by_cases h0 : x0 = y0 <;> by_cases h1 : x1 = y1 <;> simp [h0, h1]
theorem sn48 (x0 x1 y0 y1 : Int) (w : World) : (binOp .neq 48 (.agg #[.int .i64 x0, .int .i64 x1]) (.agg #[.int .i64 y0, .int .i64 y1])).run Try.prog w = .ok (.bool (!decide ((x0, x1) = (y0, y1)))) w := by
  go_simp
  by_cases h0 : x0 = y0 <;> by_cases h1 : x1 = y1 <;> simp [h0, h1]
theorem sg48 : TGuard Try.prog 48 := fun op x y xs ys w => run_eqGuard_agg w op 48 x y xs ys (by kernel_rfl)
theorem to49 : TOne Try.prog 49 := fun _ => by kernel_rfl
theorem ts49 : TSize Try.prog 49 1 := fun _ => by kernel_rfl
theorem to50 : TOne Try.prog 50 := fun _ => by kernel_rfl
theorem ts50 : TSize Try.prog 50 1 := fun _ => by kernel_rfl
theorem to51 : TOne Try.prog 51 := fun _ => by kernel_rfl
theorem ts51 : TSize Try.prog 51 1 := fun _ => by kernel_rfl
theorem to52 : TOne Try.prog 52 := fun _ => by kernel_rfl
theorem ts52 : TSize Try.prog 52 1 := fun _ => by kernel_rfl
theorem to53 : TOne Try.prog 53 := fun _ => by kernel_rfl
theorem ts53 : TSize Try.prog 53 1 := fun _ => by kernel_rfl
theorem to54 : TOne Try.prog 54 := fun _ => by kernel_rfl
theorem ts54 : TSize Try.prog 54 1 := fun _ => by kernel_rfl
theorem to55 : TOne Try.prog 55 := fun _ => by kernel_rfl
theorem ts55 : TSize Try.prog 55 1 := fun _ => by kernel_rfl
theorem to56 : TOne Try.prog 56 := fun _ => by kernel_rfl
theorem ts56 : TSize Try.prog 56 1 := fun _ => by kernel_rfl
theorem ta57 : TAgg Try.prog 57 2 := fun _ => ⟨by kernel_rfl, by kernel_rfl⟩
theorem ts57 : TSize Try.prog 57 2 := fun _ => by kernel_rfl
theorem fo57_0 : FOff Try.prog 57 0 0 := fun _ _ => by kernel_rfl
theorem fo57_1 : FOff Try.prog 57 1 1 := fun _ _ => by kernel_rfl
theorem se57 (x0 x1 y0 y1 : Int) (w : World) : (binOp .eql 57 (.agg #[.int .i64 x0, .int .i64 x1]) (.agg #[.int .i64 y0, .int .i64 y1])).run Try.prog w = .ok (.bool (decide ((x0, x1) = (y0, y1)))) w := by
  go_simp
  by_cases h0 : x0 = y0 <;> by_cases h1 : x1 = y1 <;> simp [h0, h1]
theorem sn57 (x0 x1 y0 y1 : Int) (w : World) : (binOp .neq 57 (.agg #[.int .i64 x0, .int .i64 x1]) (.agg #[.int .i64 y0, .int .i64 y1])).run Try.prog w = .ok (.bool (!decide ((x0, x1) = (y0, y1)))) w := by
  go_simp
  by_cases h0 : x0 = y0 <;> by_cases h1 : x1 = y1 <;> simp [h0, h1]
theorem sg57 : TGuard Try.prog 57 := fun op x y xs ys w => run_eqGuard_agg w op 57 x y xs ys (by kernel_rfl)
theorem to58 : TOne Try.prog 58 := fun _ => by kernel_rfl
theorem ts58 : TSize Try.prog 58 1 := fun _ => by kernel_rfl
theorem to59 : TOne Try.prog 59 := fun _ => by kernel_rfl
theorem ts59 : TSize Try.prog 59 1 := fun _ => by kernel_rfl
theorem to60 : TOne Try.prog 60 := fun _ => by kernel_rfl
theorem ts60 : TSize Try.prog 60 1 := fun _ => by kernel_rfl
theorem to61 : TOne Try.prog 61 := fun _ => by kernel_rfl
theorem ts61 : TSize Try.prog 61 1 := fun _ => by kernel_rfl
theorem to62 : TOne Try.prog 62 := fun _ => by kernel_rfl
theorem ts62 : TSize Try.prog 62 1 := fun _ => by kernel_rfl
theorem to63 : TOne Try.prog 63 := fun _ => by kernel_rfl
theorem ts63 : TSize Try.prog 63 1 := fun _ => by kernel_rfl
theorem to64 : TOne Try.prog 64 := fun _ => by kernel_rfl
theorem ts64 : TSize Try.prog 64 1 := fun _ => by kernel_rfl
theorem ta65 : TAgg Try.prog 65 4 := fun _ => ⟨by kernel_rfl, by kernel_rfl⟩
theorem ts65 : TSize Try.prog 65 4 := fun _ => by kernel_rfl
theorem fo65_0 : FOff Try.prog 65 0 0 := fun _ _ => by kernel_rfl
theorem fo65_1 : FOff Try.prog 65 1 1 := fun _ _ => by kernel_rfl
theorem fo65_2 : FOff Try.prog 65 2 2 := fun _ _ => by kernel_rfl
theorem fo65_3 : FOff Try.prog 65 3 3 := fun _ _ => by kernel_rfl
theorem ta66 : TAgg Try.prog 66 4 := fun _ => ⟨by kernel_rfl, by kernel_rfl⟩
theorem ts66 : TSize Try.prog 66 4 := fun _ => by kernel_rfl
theorem fo66_0 : FOff Try.prog 66 0 0 := fun _ _ => by kernel_rfl
theorem fo66_1 : FOff Try.prog 66 1 1 := fun _ _ => by kernel_rfl
theorem fo66_2 : FOff Try.prog 66 2 2 := fun _ _ => by kernel_rfl
theorem fo66_3 : FOff Try.prog 66 3 3 := fun _ _ => by kernel_rfl
theorem ta67 : TAgg Try.prog 67 0 := fun _ => ⟨by kernel_rfl, by kernel_rfl⟩
theorem ts67 : TSize Try.prog 67 0 := fun _ => by kernel_rfl
theorem tr67 : Try.prog.underlying 67 = some (.array 0 16) := by kernel_rfl
theorem ta68 : TAgg Try.prog 68 0 := fun _ => ⟨by kernel_rfl, by kernel_rfl⟩
theorem ts68 : TSize Try.prog 68 0 := fun _ => by kernel_rfl
theorem ta69 : TAgg Try.prog 69 0 := fun _ => ⟨by kernel_rfl, by kernel_rfl⟩
theorem ts69 : TSize Try.prog 69 0 := fun _ => by kernel_rfl
theorem to70 : TOne Try.prog 70 := fun _ => by kernel_rfl
theorem ts70 : TSize Try.prog 70 1 := fun _ => by kernel_rfl
theorem to71 : TOne Try.prog 71 := fun _ => by kernel_rfl
theorem ts71 : TSize Try.prog 71 1 := fun _ => by kernel_rfl
def E71 : En (Int) := (En.int .u32)
abbrev R71 : Rep (Int) := Rep.fl E71
theorem tn71 : Try.prog.underlying 71 = some (.int .u32) := by kernel_rfl
theorem to72 : TOne Try.prog 72 := fun _ => by kernel_rfl
theorem ts72 : TSize Try.prog 72 1 := fun _ => by kernel_rfl
def E72 : En (Int) := (En.int .u8)
abbrev R72 : Rep (Int) := Rep.fl E72
theorem tn72 : Try.prog.underlying 72 = some (.int .u8) := by kernel_rfl
theorem to73 : TOne Try.prog 73 := fun _ => by kernel_rfl
theorem ts73 : TSize Try.prog 73 1 := fun _ => by kernel_rfl
def E73 : En (Int) := (En.int .u8)
abbrev R73 : Rep (Int) := Rep.fl E73
theorem tn73 : Try.prog.underlying 73 = some (.int .u8) := by kernel_rfl
theorem to74 : TOne Try.prog 74 := fun _ => by kernel_rfl
theorem ts74 : TSize Try.prog 74 1 := fun _ => by kernel_rfl
theorem to75 : TOne Try.prog 75 := fun _ => by kernel_rfl
theorem ts75 : TSize Try.prog 75 1 := fun _ => by kernel_rfl
theorem to76 : TOne Try.prog 76 := fun _ => by kernel_rfl
theorem ts76 : TSize Try.prog 76 1 := fun _ => by kernel_rfl
def E76 : En (Int) := (En.int .i32)
abbrev R76 : Rep (Int) := Rep.fl E76
theorem tn76 : Try.prog.underlying 76 = some (.int .i32) := by kernel_rfl
theorem to77 : TOne Try.prog 77 := fun _ => by kernel_rfl
theorem ts77 : TSize Try.prog 77 1 := fun _ => by kernel_rfl
def E77 : En (Int) := (En.int .i32)
abbrev R77 : Rep (Int) := Rep.fl E77
theorem tn77 : Try.prog.underlying 77 = some (.int .i32) := by kernel_rfl
theorem ta78 : TAgg Try.prog 78 11 := fun _ => ⟨by kernel_rfl, by kernel_rfl⟩
theorem ts78 : TSize Try.prog 78 11 := fun _ => by kernel_rfl
theorem fo78_0 : FOff Try.prog 78 0 0 := fun _ _ => by kernel_rfl
theorem fo78_1 : FOff Try.prog 78 1 1 := fun _ _ => by kernel_rfl
theorem fo78_2 : FOff Try.prog 78 2 2 := fun _ _ => by kernel_rfl
theorem fo78_3 : FOff Try.prog 78 3 3 := fun _ _ => by kernel_rfl
theorem fo78_4 : FOff Try.prog 78 4 4 := fun _ _ => by kernel_rfl
theorem fo78_5 : FOff Try.prog 78 5 5 := fun _ _ => by kernel_rfl
theorem fo78_6 : FOff Try.prog 78 6 6 := fun _ _ => by kernel_rfl
theorem fo78_7 : FOff Try.prog 78 7 7 := fun _ _ => by kernel_rfl
theorem fo78_8 : FOff Try.prog 78 8 8 := fun _ _ => by kernel_rfl
theorem fo78_9 : FOff Try.prog 78 9 9 := fun _ _ => by kernel_rfl
theorem fo78_10 : FOff Try.prog 78 10 10 := fun _ _ => by kernel_rfl
theorem ta79 : TAgg Try.prog 79 11 := fun _ => ⟨by kernel_rfl, by kernel_rfl⟩
theorem ts79 : TSize Try.prog 79 11 := fun _ => by kernel_rfl
theorem fo79_0 : FOff Try.prog 79 0 0 := fun _ _ => by kernel_rfl
theorem fo79_1 : FOff Try.prog 79 1 1 := fun _ _ => by kernel_rfl
theorem fo79_2 : FOff Try.prog 79 2 2 := fun _ _ => by kernel_rfl
theorem fo79_3 : FOff Try.prog 79 3 3 := fun _ _ => by kernel_rfl
theorem fo79_4 : FOff Try.prog 79 4 4 := fun _ _ => by kernel_rfl
theorem fo79_5 : FOff Try.prog 79 5 5 := fun _ _ => by kernel_rfl
theorem fo79_6 : FOff Try.prog 79 6 6 := fun _ _ => by kernel_rfl
theorem fo79_7 : FOff Try.prog 79 7 7 := fun _ _ => by kernel_rfl
theorem fo79_8 : FOff Try.prog 79 8 8 := fun _ _ => by kernel_rfl
theorem fo79_9 : FOff Try.prog 79 9 9 := fun _ _ => by kernel_rfl
theorem fo79_10 : FOff Try.prog 79 10 10 := fun _ _ => by kernel_rfl
theorem cf2 : CF Try.prog 2 := fun _ _ => by kernel_rfl
theorem cf3 : CF Try.prog 3 := fun _ _ => by kernel_rfl
theorem cf4 : CF Try.prog 4 := fun _ _ => by kernel_rfl
theorem cf5 : CF Try.prog 5 := fun _ _ => by kernel_rfl
theorem cf6 : CF Try.prog 6 := fun _ _ => by kernel_rfl
theorem cf7 : CF Try.prog 7 := fun _ _ => by kernel_rfl
theorem cf8 : CF Try.prog 8 := fun _ _ => by kernel_rfl
theorem cf9 : CF Try.prog 9 := fun _ _ => by kernel_rfl
theorem cf10 : CF Try.prog 10 := fun _ _ => by kernel_rfl
theorem cf11 : CF Try.prog 11 := fun _ _ => by kernel_rfl
theorem cf12 : CF Try.prog 12 := fun _ _ => by kernel_rfl
theorem cf13 : CF Try.prog 13 := fun _ _ => by kernel_rfl
theorem cf14 : CF Try.prog 14 := fun _ _ => by kernel_rfl
theorem cf15 : CF Try.prog 15 := fun _ _ => by kernel_rfl
theorem cf16 : CF Try.prog 16 := fun _ _ => by kernel_rfl
theorem cf17 : CF Try.prog 17 := fun _ _ => by kernel_rfl
theorem cf18 : CF Try.prog 18 := fun _ _ => by kernel_rfl
theorem cf19 : CF Try.prog 19 := fun _ _ => by kernel_rfl
theorem cf20 : CF Try.prog 20 := fun _ _ => by kernel_rfl
theorem cf21 : CF Try.prog 21 := fun _ _ => by kernel_rfl
theorem cf22 : CF Try.prog 22 := fun _ _ => by kernel_rfl
theorem cf23 : CF Try.prog 23 := fun _ _ => by kernel_rfl
theorem cf24 : CF Try.prog 24 := fun _ _ => by kernel_rfl
theorem cf25 : CF Try.prog 25 := fun _ _ => by kernel_rfl
theorem cf26 : CF Try.prog 26 := fun _ _ => by kernel_rfl
theorem cf27 : CF Try.prog 27 := fun _ _ => by kernel_rfl
theorem cf28 : CF Try.prog 28 := fun _ _ => by kernel_rfl
theorem cf29 : CF Try.prog 29 := fun _ _ => by kernel_rfl
theorem cf30 : CF Try.prog 30 := fun _ _ => by kernel_rfl
theorem cf31 : CF Try.prog 31 := fun _ _ => by kernel_rfl
theorem cf32 : CF Try.prog 32 := fun _ _ => by kernel_rfl
theorem cf33 : CF Try.prog 33 := fun _ _ => by kernel_rfl
theorem cf34 : CF Try.prog 34 := fun _ _ => by kernel_rfl
theorem cf35 : CF Try.prog 35 := fun _ _ => by kernel_rfl
theorem cf36 : CF Try.prog 36 := fun _ _ => by kernel_rfl
theorem cf37 : CF Try.prog 37 := fun _ _ => by kernel_rfl
theorem cf38 : CF Try.prog 38 := fun _ _ => by kernel_rfl
theorem cf39 : CF Try.prog 39 := fun _ _ => by kernel_rfl
theorem cf40 : CF Try.prog 40 := fun _ _ => by kernel_rfl
theorem cf41 : CF Try.prog 41 := fun _ _ => by kernel_rfl
theorem cf42 : CF Try.prog 42 := fun _ _ => by kernel_rfl
theorem cf43 : CF Try.prog 43 := fun _ _ => by kernel_rfl
end Go.Proofs.Ythbjlgklmamhjaa
