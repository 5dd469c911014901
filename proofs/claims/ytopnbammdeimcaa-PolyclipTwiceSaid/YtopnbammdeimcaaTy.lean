/-
  Closed facts on the types and functions of the program at hand, for the walks.
-/
import Derived.Test.YtopnbammdeimcaaNest
import Derived.Test.YtopnbammdeimcaaMap
import Derived.Test.YtopnbammdeimcaaFl
import Derived.Test.YtopnbammdeimcaaProg
import Derived.Laws.StructEq
import Derived.WalkKit
namespace Go.Proofs.Ytopnbammdeimcaa
open Go.RowKit
theorem g_mixed : Try.prog.follows .mixedOrders = true := by kernel_rfl
theorem to1 : TOne Try.prog 1 := fun _ => by kernel_rfl
theorem ts1 : TSize Try.prog 1 1 := fun _ => by kernel_rfl
theorem to2 : TOne Try.prog 2 := fun _ => by kernel_rfl
theorem ts2 : TSize Try.prog 2 1 := fun _ => by kernel_rfl
def E2 : En (Int) := (En.int .i64)
abbrev R2 : Rep (Int) := Rep.fl E2
theorem tn2 : Try.prog.underlying 2 = some (.int .i64) := by kernel_rfl
theorem to3 : TOne Try.prog 3 := fun _ => by kernel_rfl
theorem ts3 : TSize Try.prog 3 1 := fun _ => by kernel_rfl
def E3 : En (Int) := (En.int .i64)
abbrev R3 : Rep (Int) := Rep.fl E3
theorem tn3 : Try.prog.underlying 3 = some (.int .i64) := by kernel_rfl
theorem to4 : TOne Try.prog 4 := fun _ => by kernel_rfl
theorem ts4 : TSize Try.prog 4 1 := fun _ => by kernel_rfl
def E4 : En (Bool) := En.bool
abbrev R4 : Rep (Bool) := Rep.fl E4
theorem tb4 : Try.prog.underlying 4 = some .bool := by kernel_rfl
theorem to5 : TOne Try.prog 5 := fun _ => by kernel_rfl
theorem ts5 : TSize Try.prog 5 1 := fun _ => by kernel_rfl
def E5 : En (Int) := (En.int .u8)
abbrev R5 : Rep (Int) := Rep.fl E5
theorem tn5 : Try.prog.underlying 5 = some (.int .u8) := by kernel_rfl
theorem to6 : TOne Try.prog 6 := fun _ => by kernel_rfl
theorem ts6 : TSize Try.prog 6 1 := fun _ => by kernel_rfl
def E6 : En (Int) := (En.int .u8)
abbrev R6 : Rep (Int) := Rep.fl E6
theorem tn6 : Try.prog.underlying 6 = some (.int .u8) := by kernel_rfl
theorem ta7 : TAgg Try.prog 7 4 := fun _ => ⟨by kernel_rfl, by kernel_rfl⟩
theorem ts7 : TSize Try.prog 7 4 := fun _ => by kernel_rfl
def E7 : En (Int × Int × Bool × Int) := (En.pr (En.int .i64) (En.pr (En.int .i64) (En.pr En.bool (En.int .u8))))
abbrev R7 : Rep (Int × Int × Bool × Int) := Rep.fl E7
theorem fo7_0 : FOff Try.prog 7 0 0 := fun _ _ => by kernel_rfl
theorem fo7_1 : FOff Try.prog 7 1 1 := fun _ _ => by kernel_rfl
theorem fo7_2 : FOff Try.prog 7 2 2 := fun _ _ => by kernel_rfl
theorem fo7_3 : FOff Try.prog 7 3 3 := fun _ _ => by kernel_rfl
theorem ta8 : TAgg Try.prog 8 4 := fun _ => ⟨by kernel_rfl, by kernel_rfl⟩
theorem ts8 : TSize Try.prog 8 4 := fun _ => by kernel_rfl
def E8 : En (Int × Int × Bool × Int) := (En.pr (En.int .i64) (En.pr (En.int .i64) (En.pr En.bool (En.int .u8))))
abbrev R8 : Rep (Int × Int × Bool × Int) := Rep.fl E8
theorem fo8_0 : FOff Try.prog 8 0 0 := fun _ _ => by kernel_rfl
theorem fo8_1 : FOff Try.prog 8 1 1 := fun _ _ => by kernel_rfl
theorem fo8_2 : FOff Try.prog 8 2 2 := fun _ _ => by kernel_rfl
theorem fo8_3 : FOff Try.prog 8 3 3 := fun _ _ => by kernel_rfl
theorem to9 : TOne Try.prog 9 := fun _ => by kernel_rfl
theorem ts9 : TSize Try.prog 9 1 := fun _ => by kernel_rfl
def E9 : En (ByteArray) := En.str
abbrev R9 : Rep (ByteArray) := Rep.fl E9
theorem to10 : TOne Try.prog 10 := fun _ => by kernel_rfl
theorem ts10 : TSize Try.prog 10 1 := fun _ => by kernel_rfl
def E10 : En (ByteArray) := En.str
abbrev R10 : Rep (ByteArray) := Rep.fl E10
theorem to11 : TOne Try.prog 11 := fun _ => by kernel_rfl
theorem ts11 : TSize Try.prog 11 1 := fun _ => by kernel_rfl
def E11 : En (ByteArray) := En.str
abbrev R11 : Rep (ByteArray) := Rep.fl E11
theorem to12 : TOne Try.prog 12 := fun _ => by kernel_rfl
theorem ts12 : TSize Try.prog 12 1 := fun _ => by kernel_rfl
def E12 : En (Int) := (En.int .u64)
abbrev R12 : Rep (Int) := Rep.fl E12
theorem tn12 : Try.prog.underlying 12 = some (.int .u64) := by kernel_rfl
theorem ta13 : TAgg Try.prog 13 2 := fun _ => ⟨by kernel_rfl, by kernel_rfl⟩
theorem ts13 : TSize Try.prog 13 2 := fun _ => by kernel_rfl
def E13 : En (ByteArray × Int) := (En.pr En.str (En.int .u64))
abbrev R13 : Rep (ByteArray × Int) := Rep.fl E13
theorem fo13_0 : FOff Try.prog 13 0 0 := fun _ _ => by kernel_rfl
theorem fo13_1 : FOff Try.prog 13 1 1 := fun _ _ => by kernel_rfl
theorem ta14 : TAgg Try.prog 14 2 := fun _ => ⟨by kernel_rfl, by kernel_rfl⟩
theorem ts14 : TSize Try.prog 14 2 := fun _ => by kernel_rfl
def E14 : En (ByteArray × Int) := (En.pr En.str (En.int .u64))
abbrev R14 : Rep (ByteArray × Int) := Rep.fl E14
theorem fo14_0 : FOff Try.prog 14 0 0 := fun _ _ => by kernel_rfl
theorem fo14_1 : FOff Try.prog 14 1 1 := fun _ _ => by kernel_rfl
theorem to15 : TOne Try.prog 15 := fun _ => by kernel_rfl
theorem ts15 : TSize Try.prog 15 1 := fun _ => by kernel_rfl
theorem to16 : TOne Try.prog 16 := fun _ => by kernel_rfl
theorem ts16 : TSize Try.prog 16 1 := fun _ => by kernel_rfl
theorem to17 : TOne Try.prog 17 := fun _ => by kernel_rfl
theorem ts17 : TSize Try.prog 17 1 := fun _ => by kernel_rfl
theorem ta18 : TAgg Try.prog 18 1 := fun _ => ⟨by kernel_rfl, by kernel_rfl⟩
theorem ts18 : TSize Try.prog 18 1 := fun _ => by kernel_rfl
theorem fo18_0 : FOff Try.prog 18 0 0 := fun _ _ => by kernel_rfl
theorem ta19 : TAgg Try.prog 19 1 := fun _ => ⟨by kernel_rfl, by kernel_rfl⟩
theorem ts19 : TSize Try.prog 19 1 := fun _ => by kernel_rfl
theorem fo19_0 : FOff Try.prog 19 0 0 := fun _ _ => by kernel_rfl
theorem to21 : TOne Try.prog 21 := fun _ => by kernel_rfl
theorem ts21 : TSize Try.prog 21 1 := fun _ => by kernel_rfl
def E21 : En (Int) := (En.int .i32)
abbrev R21 : Rep (Int) := Rep.fl E21
theorem tn21 : Try.prog.underlying 21 = some (.int .i32) := by kernel_rfl
theorem to22 : TOne Try.prog 22 := fun _ => by kernel_rfl
theorem ts22 : TSize Try.prog 22 1 := fun _ => by kernel_rfl
def E25 : En (Int × Int) := (En.pr (En.int .i64) (En.int .i64))
abbrev R25 : Rep (Int × Int) := Rep.fl E25
abbrev R22 : Rep (List (Int × Int)) := Rep.sl R25
abbrev X22 : Ex R22 (Option Addr × Nat) := Ex.sl R25
theorem tl22 : TSlice Try.prog 22 2 := ⟨25, by kernel_rfl, fun _ => by kernel_rfl⟩
theorem tu22 : Try.prog.underlying 22 = some (.slice 25) := by kernel_rfl
theorem tp22 : TApp Try.prog 22 25 2 16 := tapp_of (z := .agg #[.int .i64 0, .int .i64 0]) (by kernel_rfl) (by kernel_rfl) (by kernel_rfl) (by decide)
theorem to23 : TOne Try.prog 23 := fun _ => by kernel_rfl
theorem ts23 : TSize Try.prog 23 1 := fun _ => by kernel_rfl
theorem ta24 : TAgg Try.prog 24 2 := fun _ => ⟨by kernel_rfl, by kernel_rfl⟩
theorem ts24 : TSize Try.prog 24 2 := fun _ => by kernel_rfl
def E24 : En (Int × Int) := (En.pr (En.int .i64) (En.int .i64))
abbrev R24 : Rep (Int × Int) := Rep.fl E24
theorem fo24_0 : FOff Try.prog 24 0 0 := fun _ _ => by kernel_rfl
theorem fo24_1 : FOff Try.prog 24 1 1 := fun _ _ => by kernel_rfl
theorem se24 (x0 x1 y0 y1 : Int) (w : World) : (binOp .eql 24 (.agg #[.int .i64 x0, .int .i64 x1]) (.agg #[.int .i64 y0, .int .i64 y1])).run Try.prog w = .ok (.bool (decide ((x0, x1) = (y0, y1)))) w := by
  go_simp
  by_cases h0 : x0 = y0 <;> by_cases h1 : x1 = y1 <;> simp [h0, h1]
theorem sn24 (x0 x1 y0 y1 : Int) (w : World) : (binOp .neq 24 (.agg #[.int .i64 x0, .int .i64 x1]) (.agg #[.int .i64 y0, .int .i64 y1])).run Try.prog w = .ok (.bool (!decide ((x0, x1) = (y0, y1)))) w := by
  go_simp
  by_cases h0 : x0 = y0 <;> by_cases h1 : x1 = y1 <;> simp [h0, h1]
theorem sg24 : TGuard Try.prog 24 := fun op x y xs ys w => run_eqGuard_agg w op 24 x y xs ys (by kernel_rfl)
theorem ta25 : TAgg Try.prog 25 2 := fun _ => ⟨by kernel_rfl, by kernel_rfl⟩
theorem ts25 : TSize Try.prog 25 2 := fun _ => by kernel_rfl
theorem fo25_0 : FOff Try.prog 25 0 0 := fun _ _ => by kernel_rfl
theorem fo25_1 : FOff Try.prog 25 1 1 := fun _ _ => by kernel_rfl
theorem se25 (x0 x1 y0 y1 : Int) (w : World) : (binOp .eql 25 (.agg #[.int .i64 x0, .int .i64 x1]) (.agg #[.int .i64 y0, .int .i64 y1])).run Try.prog w = .ok (.bool (decide ((x0, x1) = (y0, y1)))) w := by
  go_simp
  by_cases h0 : x0 = y0 <;> by_cases h1 : x1 = y1 <;> simp [h0, h1]
theorem sn25 (x0 x1 y0 y1 : Int) (w : World) : (binOp .neq 25 (.agg #[.int .i64 x0, .int .i64 x1]) (.agg #[.int .i64 y0, .int .i64 y1])).run Try.prog w = .ok (.bool (!decide ((x0, x1) = (y0, y1)))) w := by
  go_simp
  by_cases h0 : x0 = y0 <;> by_cases h1 : x1 = y1 <;> simp [h0, h1]
theorem sg25 : TGuard Try.prog 25 := fun op x y xs ys w => run_eqGuard_agg w op 25 x y xs ys (by kernel_rfl)
theorem to26 : TOne Try.prog 26 := fun _ => by kernel_rfl
theorem ts26 : TSize Try.prog 26 1 := fun _ => by kernel_rfl
theorem to27 : TOne Try.prog 27 := fun _ => by kernel_rfl
theorem ts27 : TSize Try.prog 27 1 := fun _ => by kernel_rfl
theorem to28 : TOne Try.prog 28 := fun _ => by kernel_rfl
theorem ts28 : TSize Try.prog 28 1 := fun _ => by kernel_rfl
theorem to29 : TOne Try.prog 29 := fun _ => by kernel_rfl
theorem ts29 : TSize Try.prog 29 1 := fun _ => by kernel_rfl
theorem ta30 : TAgg Try.prog 30 4 := fun _ => ⟨by kernel_rfl, by kernel_rfl⟩
theorem ts30 : TSize Try.prog 30 4 := fun _ => by kernel_rfl
def E30 : En ((Int × Int) × (Int × Int)) := (En.pr (En.pr (En.int .i64) (En.int .i64)) (En.pr (En.int .i64) (En.int .i64)))
abbrev R30 : Rep ((Int × Int) × (Int × Int)) := Rep.fl E30
theorem fo30_0 : FOff Try.prog 30 0 0 := fun _ _ => by kernel_rfl
theorem fo30_1 : FOff Try.prog 30 1 2 := fun _ _ => by kernel_rfl
theorem se30 (x0 x1 x2 x3 y0 y1 y2 y3 : Int) (w : World) : (binOp .eql 30 (.agg #[.int .i64 x0, .int .i64 x1, .int .i64 x2, .int .i64 x3]) (.agg #[.int .i64 y0, .int .i64 y1, .int .i64 y2, .int .i64 y3])).run Try.prog w = .ok (.bool (decide (((x0, x1), (x2, x3)) = ((y0, y1), (y2, y3))))) w := by
  go_simp
  by_cases h0 : x0 = y0 <;> by_cases h1 : x1 = y1 <;> by_cases h2 : x2 = y2 <;> by_cases h3 : x3 = y3 <;> simp [h0, h1, h2, h3]
theorem sn30 (x0 x1 x2 x3 y0 y1 y2 y3 : Int) (w : World) : (binOp .neq 30 (.agg #[.int .i64 x0, .int .i64 x1, .int .i64 x2, .int .i64 x3]) (.agg #[.int .i64 y0, .int .i64 y1, .int .i64 y2, .int .i64 y3])).run Try.prog w = .ok (.bool (!decide (((x0, x1), (x2, x3)) = ((y0, y1), (y2, y3))))) w := by
  go_simp
  by_cases h0 : x0 = y0 <;> by_cases h1 : x1 = y1 <;> by_cases h2 : x2 = y2 <;> by_cases h3 : x3 = y3 <;> simp [h0, h1, h2, h3]
theorem sg30 : TGuard Try.prog 30 := fun op x y xs ys w => run_eqGuard_agg w op 30 x y xs ys (by kernel_rfl)
theorem ta31 : TAgg Try.prog 31 4 := fun _ => ⟨by kernel_rfl, by kernel_rfl⟩
theorem ts31 : TSize Try.prog 31 4 := fun _ => by kernel_rfl
def E31 : En ((Int × Int) × (Int × Int)) := (En.pr (En.pr (En.int .i64) (En.int .i64)) (En.pr (En.int .i64) (En.int .i64)))
abbrev R31 : Rep ((Int × Int) × (Int × Int)) := Rep.fl E31
theorem fo31_0 : FOff Try.prog 31 0 0 := fun _ _ => by kernel_rfl
theorem fo31_1 : FOff Try.prog 31 1 2 := fun _ _ => by kernel_rfl
theorem se31 (x0 x1 x2 x3 y0 y1 y2 y3 : Int) (w : World) : (binOp .eql 31 (.agg #[.int .i64 x0, .int .i64 x1, .int .i64 x2, .int .i64 x3]) (.agg #[.int .i64 y0, .int .i64 y1, .int .i64 y2, .int .i64 y3])).run Try.prog w = .ok (.bool (decide (((x0, x1), (x2, x3)) = ((y0, y1), (y2, y3))))) w := by
  go_simp
  by_cases h0 : x0 = y0 <;> by_cases h1 : x1 = y1 <;> by_cases h2 : x2 = y2 <;> by_cases h3 : x3 = y3 <;> simp [h0, h1, h2, h3]
theorem sn31 (x0 x1 x2 x3 y0 y1 y2 y3 : Int) (w : World) : (binOp .neq 31 (.agg #[.int .i64 x0, .int .i64 x1, .int .i64 x2, .int .i64 x3]) (.agg #[.int .i64 y0, .int .i64 y1, .int .i64 y2, .int .i64 y3])).run Try.prog w = .ok (.bool (!decide (((x0, x1), (x2, x3)) = ((y0, y1), (y2, y3))))) w := by
  go_simp
  by_cases h0 : x0 = y0 <;> by_cases h1 : x1 = y1 <;> by_cases h2 : x2 = y2 <;> by_cases h3 : x3 = y3 <;> simp [h0, h1, h2, h3]
theorem sg31 : TGuard Try.prog 31 := fun op x y xs ys w => run_eqGuard_agg w op 31 x y xs ys (by kernel_rfl)
theorem to32 : TOne Try.prog 32 := fun _ => by kernel_rfl
theorem ts32 : TSize Try.prog 32 1 := fun _ => by kernel_rfl
theorem to33 : TOne Try.prog 33 := fun _ => by kernel_rfl
theorem ts33 : TSize Try.prog 33 1 := fun _ => by kernel_rfl
theorem to34 : TOne Try.prog 34 := fun _ => by kernel_rfl
theorem ts34 : TSize Try.prog 34 1 := fun _ => by kernel_rfl
def E43 : En (Int × Int) := (En.pr (En.int .i64) (En.int .i64))
abbrev R43 : Rep (Int × Int) := Rep.fl E43
abbrev R34 : Rep (List (Int × Int)) := Rep.sl R43
abbrev X34 : Ex R34 (Option Addr × Nat) := Ex.sl R43
theorem tl34 : TSlice Try.prog 34 2 := ⟨43, by kernel_rfl, fun _ => by kernel_rfl⟩
theorem tu34 : Try.prog.underlying 34 = some (.slice 43) := by kernel_rfl
theorem tp34 : TApp Try.prog 34 43 2 16 := tapp_of (z := .agg #[.int .i64 0, .int .i64 0]) (by kernel_rfl) (by kernel_rfl) (by kernel_rfl) (by decide)
theorem to35 : TOne Try.prog 35 := fun _ => by kernel_rfl
theorem ts35 : TSize Try.prog 35 1 := fun _ => by kernel_rfl
theorem to36 : TOne Try.prog 36 := fun _ => by kernel_rfl
theorem ts36 : TSize Try.prog 36 1 := fun _ => by kernel_rfl
theorem to37 : TOne Try.prog 37 := fun _ => by kernel_rfl
theorem ts37 : TSize Try.prog 37 1 := fun _ => by kernel_rfl
theorem to38 : TOne Try.prog 38 := fun _ => by kernel_rfl
theorem ts38 : TSize Try.prog 38 1 := fun _ => by kernel_rfl
theorem to39 : TOne Try.prog 39 := fun _ => by kernel_rfl
theorem ts39 : TSize Try.prog 39 1 := fun _ => by kernel_rfl
theorem to41 : TOne Try.prog 41 := fun _ => by kernel_rfl
theorem ts41 : TSize Try.prog 41 1 := fun _ => by kernel_rfl
theorem to42 : TOne Try.prog 42 := fun _ => by kernel_rfl
theorem ts42 : TSize Try.prog 42 1 := fun _ => by kernel_rfl
theorem ta43 : TAgg Try.prog 43 2 := fun _ => ⟨by kernel_rfl, by kernel_rfl⟩
theorem ts43 : TSize Try.prog 43 2 := fun _ => by kernel_rfl
theorem fo43_0 : FOff Try.prog 43 0 0 := fun _ _ => by kernel_rfl
theorem fo43_1 : FOff Try.prog 43 1 1 := fun _ _ => by kernel_rfl
theorem se43 (x0 x1 y0 y1 : Int) (w : World) : (binOp .eql 43 (.agg #[.int .i64 x0, .int .i64 x1]) (.agg #[.int .i64 y0, .int .i64 y1])).run Try.prog w = .ok (.bool (decide ((x0, x1) = (y0, y1)))) w := by
  go_simp
  by_cases h0 : x0 = y0 <;> by_cases h1 : x1 = y1 <;> simp [h0, h1]
theorem sn43 (x0 x1 y0 y1 : Int) (w : World) : (binOp .neq 43 (.agg #[.int .i64 x0, .int .i64 x1]) (.agg #[.int .i64 y0, .int .i64 y1])).run Try.prog w = .ok (.bool (!decide ((x0, x1) = (y0, y1)))) w := by
  go_simp
  by_cases h0 : x0 = y0 <;> by_cases h1 : x1 = y1 <;> simp [h0, h1]
theorem sg43 : TGuard Try.prog 43 := fun op x y xs ys w => run_eqGuard_agg w op 43 x y xs ys (by kernel_rfl)
theorem to44 : TOne Try.prog 44 := fun _ => by kernel_rfl
theorem ts44 : TSize Try.prog 44 1 := fun _ => by kernel_rfl
theorem to45 : TOne Try.prog 45 := fun _ => by kernel_rfl
theorem ts45 : TSize Try.prog 45 1 := fun _ => by kernel_rfl
theorem to46 : TOne Try.prog 46 := fun _ => by kernel_rfl
theorem ts46 : TSize Try.prog 46 1 := fun _ => by kernel_rfl
theorem to47 : TOne Try.prog 47 := fun _ => by kernel_rfl
theorem ts47 : TSize Try.prog 47 1 := fun _ => by kernel_rfl
theorem to49 : TOne Try.prog 49 := fun _ => by kernel_rfl
theorem ts49 : TSize Try.prog 49 1 := fun _ => by kernel_rfl
theorem to50 : TOne Try.prog 50 := fun _ => by kernel_rfl
theorem ts50 : TSize Try.prog 50 1 := fun _ => by kernel_rfl
theorem to51 : TOne Try.prog 51 := fun _ => by kernel_rfl
theorem ts51 : TSize Try.prog 51 1 := fun _ => by kernel_rfl
theorem to52 : TOne Try.prog 52 := fun _ => by kernel_rfl
theorem ts52 : TSize Try.prog 52 1 := fun _ => by kernel_rfl
theorem to53 : TOne Try.prog 53 := fun _ => by kernel_rfl
theorem ts53 : TSize Try.prog 53 1 := fun _ => by kernel_rfl
theorem to54 : TOne Try.prog 54 := fun _ => by kernel_rfl
theorem ts54 : TSize Try.prog 54 1 := fun _ => by kernel_rfl
theorem ta55 : TAgg Try.prog 55 3 := fun _ => ⟨by kernel_rfl, by kernel_rfl⟩
theorem ts55 : TSize Try.prog 55 3 := fun _ => by kernel_rfl
def E55 : En (Int × Bool × Bool) := (En.pr (En.int .i64) (En.pr En.bool En.bool))
abbrev R55 : Rep (Int × Bool × Bool) := Rep.fl E55
theorem fo55_0 : FOff Try.prog 55 0 0 := fun _ _ => by kernel_rfl
theorem fo55_1 : FOff Try.prog 55 1 1 := fun _ _ => by kernel_rfl
theorem fo55_2 : FOff Try.prog 55 2 2 := fun _ _ => by kernel_rfl
theorem ta56 : TAgg Try.prog 56 3 := fun _ => ⟨by kernel_rfl, by kernel_rfl⟩
theorem ts56 : TSize Try.prog 56 3 := fun _ => by kernel_rfl
def E56 : En (Int × Bool × Bool) := (En.pr (En.int .i64) (En.pr En.bool En.bool))
abbrev R56 : Rep (Int × Bool × Bool) := Rep.fl E56
theorem fo56_0 : FOff Try.prog 56 0 0 := fun _ _ => by kernel_rfl
theorem fo56_1 : FOff Try.prog 56 1 1 := fun _ _ => by kernel_rfl
theorem fo56_2 : FOff Try.prog 56 2 2 := fun _ _ => by kernel_rfl
theorem ta57 : TAgg Try.prog 57 12 := fun _ => ⟨by kernel_rfl, by kernel_rfl⟩
theorem ts57 : TSize Try.prog 57 12 := fun _ => by kernel_rfl
def E57 : En ((Int × Bool × Bool) × (Int × Bool × Bool) × (Int × Bool × Bool) × (Int × Bool × Bool)) := (En.pr (En.pr (En.int .i64) (En.pr En.bool En.bool)) (En.pr (En.pr (En.int .i64) (En.pr En.bool En.bool)) (En.pr (En.pr (En.int .i64) (En.pr En.bool En.bool)) (En.pr (En.int .i64) (En.pr En.bool En.bool)))))
abbrev R57 : Rep ((Int × Bool × Bool) × (Int × Bool × Bool) × (Int × Bool × Bool) × (Int × Bool × Bool)) := Rep.fl E57
theorem tr57 : Try.prog.underlying 57 = some (.array 4 56) := by kernel_rfl
theorem to58 : TOne Try.prog 58 := fun _ => by kernel_rfl
theorem ts58 : TSize Try.prog 58 1 := fun _ => by kernel_rfl
theorem to59 : TOne Try.prog 59 := fun _ => by kernel_rfl
theorem ts59 : TSize Try.prog 59 1 := fun _ => by kernel_rfl
theorem to60 : TOne Try.prog 60 := fun _ => by kernel_rfl
theorem ts60 : TSize Try.prog 60 1 := fun _ => by kernel_rfl
theorem to61 : TOne Try.prog 61 := fun _ => by kernel_rfl
theorem ts61 : TSize Try.prog 61 1 := fun _ => by kernel_rfl
def E61 : En (Int) := (En.int .i64)
abbrev R61 : Rep (Int) := Rep.fl E61
theorem tn61 : Try.prog.underlying 61 = some (.int .i64) := by kernel_rfl
theorem to63 : TOne Try.prog 63 := fun _ => by kernel_rfl
theorem ts63 : TSize Try.prog 63 1 := fun _ => by kernel_rfl
theorem to64 : TOne Try.prog 64 := fun _ => by kernel_rfl
theorem ts64 : TSize Try.prog 64 1 := fun _ => by kernel_rfl
theorem to65 : TOne Try.prog 65 := fun _ => by kernel_rfl
theorem ts65 : TSize Try.prog 65 1 := fun _ => by kernel_rfl
theorem to66 : TOne Try.prog 66 := fun _ => by kernel_rfl
theorem ts66 : TSize Try.prog 66 1 := fun _ => by kernel_rfl
theorem to67 : TOne Try.prog 67 := fun _ => by kernel_rfl
theorem ts67 : TSize Try.prog 67 1 := fun _ => by kernel_rfl
theorem to68 : TOne Try.prog 68 := fun _ => by kernel_rfl
theorem ts68 : TSize Try.prog 68 1 := fun _ => by kernel_rfl
theorem to69 : TOne Try.prog 69 := fun _ => by kernel_rfl
theorem ts69 : TSize Try.prog 69 1 := fun _ => by kernel_rfl
theorem ta70 : TAgg Try.prog 70 3 := fun _ => ⟨by kernel_rfl, by kernel_rfl⟩
theorem ts70 : TSize Try.prog 70 3 := fun _ => by kernel_rfl
def E70 : En (Int × Int × Int) := (En.pr (En.int .i64) (En.pr (En.int .i64) (En.int .i64)))
abbrev R70 : Rep (Int × Int × Int) := Rep.fl E70
theorem tr70 : Try.prog.underlying 70 = some (.array 3 3) := by kernel_rfl
theorem to71 : TOne Try.prog 71 := fun _ => by kernel_rfl
theorem ts71 : TSize Try.prog 71 1 := fun _ => by kernel_rfl
theorem to72 : TOne Try.prog 72 := fun _ => by kernel_rfl
theorem ts72 : TSize Try.prog 72 1 := fun _ => by kernel_rfl
theorem to73 : TOne Try.prog 73 := fun _ => by kernel_rfl
theorem ts73 : TSize Try.prog 73 1 := fun _ => by kernel_rfl
theorem ta74 : TAgg Try.prog 74 4 := fun _ => ⟨by kernel_rfl, by kernel_rfl⟩
theorem ts74 : TSize Try.prog 74 4 := fun _ => by kernel_rfl
theorem fo74_0 : FOff Try.prog 74 0 0 := fun _ _ => by kernel_rfl
theorem fo74_1 : FOff Try.prog 74 1 1 := fun _ _ => by kernel_rfl
theorem fo74_2 : FOff Try.prog 74 2 2 := fun _ _ => by kernel_rfl
theorem fo74_3 : FOff Try.prog 74 3 3 := fun _ _ => by kernel_rfl
theorem ta75 : TAgg Try.prog 75 4 := fun _ => ⟨by kernel_rfl, by kernel_rfl⟩
theorem ts75 : TSize Try.prog 75 4 := fun _ => by kernel_rfl
theorem fo75_0 : FOff Try.prog 75 0 0 := fun _ _ => by kernel_rfl
theorem fo75_1 : FOff Try.prog 75 1 1 := fun _ _ => by kernel_rfl
theorem fo75_2 : FOff Try.prog 75 2 2 := fun _ _ => by kernel_rfl
theorem fo75_3 : FOff Try.prog 75 3 3 := fun _ _ => by kernel_rfl
theorem ta76 : TAgg Try.prog 76 0 := fun _ => ⟨by kernel_rfl, by kernel_rfl⟩
theorem ts76 : TSize Try.prog 76 0 := fun _ => by kernel_rfl
theorem tr76 : Try.prog.underlying 76 = some (.array 0 16) := by kernel_rfl
theorem ta77 : TAgg Try.prog 77 0 := fun _ => ⟨by kernel_rfl, by kernel_rfl⟩
theorem ts77 : TSize Try.prog 77 0 := fun _ => by kernel_rfl
theorem ta78 : TAgg Try.prog 78 0 := fun _ => ⟨by kernel_rfl, by kernel_rfl⟩
theorem ts78 : TSize Try.prog 78 0 := fun _ => by kernel_rfl
theorem to79 : TOne Try.prog 79 := fun _ => by kernel_rfl
theorem ts79 : TSize Try.prog 79 1 := fun _ => by kernel_rfl
theorem to80 : TOne Try.prog 80 := fun _ => by kernel_rfl
theorem ts80 : TSize Try.prog 80 1 := fun _ => by kernel_rfl
def E80 : En (Int) := (En.int .u32)
abbrev R80 : Rep (Int) := Rep.fl E80
theorem tn80 : Try.prog.underlying 80 = some (.int .u32) := by kernel_rfl
theorem to81 : TOne Try.prog 81 := fun _ => by kernel_rfl
theorem ts81 : TSize Try.prog 81 1 := fun _ => by kernel_rfl
def E81 : En (Int) := (En.int .u8)
abbrev R81 : Rep (Int) := Rep.fl E81
theorem tn81 : Try.prog.underlying 81 = some (.int .u8) := by kernel_rfl
theorem to82 : TOne Try.prog 82 := fun _ => by kernel_rfl
theorem ts82 : TSize Try.prog 82 1 := fun _ => by kernel_rfl
def E82 : En (Int) := (En.int .u8)
abbrev R82 : Rep (Int) := Rep.fl E82
theorem tn82 : Try.prog.underlying 82 = some (.int .u8) := by kernel_rfl
theorem to83 : TOne Try.prog 83 := fun _ => by kernel_rfl
theorem ts83 : TSize Try.prog 83 1 := fun _ => by kernel_rfl
theorem to84 : TOne Try.prog 84 := fun _ => by kernel_rfl
theorem ts84 : TSize Try.prog 84 1 := fun _ => by kernel_rfl
theorem to85 : TOne Try.prog 85 := fun _ => by kernel_rfl
theorem ts85 : TSize Try.prog 85 1 := fun _ => by kernel_rfl
def E85 : En (Int) := (En.int .i32)
abbrev R85 : Rep (Int) := Rep.fl E85
theorem tn85 : Try.prog.underlying 85 = some (.int .i32) := by kernel_rfl
theorem to86 : TOne Try.prog 86 := fun _ => by kernel_rfl
theorem ts86 : TSize Try.prog 86 1 := fun _ => by kernel_rfl
def E86 : En (Int) := (En.int .i32)
abbrev R86 : Rep (Int) := Rep.fl E86
theorem tn86 : Try.prog.underlying 86 = some (.int .i32) := by kernel_rfl
theorem ta87 : TAgg Try.prog 87 11 := fun _ => ⟨by kernel_rfl, by kernel_rfl⟩
theorem ts87 : TSize Try.prog 87 11 := fun _ => by kernel_rfl
theorem fo87_0 : FOff Try.prog 87 0 0 := fun _ _ => by kernel_rfl
theorem fo87_1 : FOff Try.prog 87 1 1 := fun _ _ => by kernel_rfl
theorem fo87_2 : FOff Try.prog 87 2 2 := fun _ _ => by kernel_rfl
theorem fo87_3 : FOff Try.prog 87 3 3 := fun _ _ => by kernel_rfl
theorem fo87_4 : FOff Try.prog 87 4 4 := fun _ _ => by kernel_rfl
theorem fo87_5 : FOff Try.prog 87 5 5 := fun _ _ => by kernel_rfl
theorem fo87_6 : FOff Try.prog 87 6 6 := fun _ _ => by kernel_rfl
theorem fo87_7 : FOff Try.prog 87 7 7 := fun _ _ => by kernel_rfl
theorem fo87_8 : FOff Try.prog 87 8 8 := fun _ _ => by kernel_rfl
theorem fo87_9 : FOff Try.prog 87 9 9 := fun _ _ => by kernel_rfl
theorem fo87_10 : FOff Try.prog 87 10 10 := fun _ _ => by kernel_rfl
theorem ta88 : TAgg Try.prog 88 11 := fun _ => ⟨by kernel_rfl, by kernel_rfl⟩
theorem ts88 : TSize Try.prog 88 11 := fun _ => by kernel_rfl
theorem fo88_0 : FOff Try.prog 88 0 0 := fun _ _ => by kernel_rfl
theorem fo88_1 : FOff Try.prog 88 1 1 := fun _ _ => by kernel_rfl
theorem fo88_2 : FOff Try.prog 88 2 2 := fun _ _ => by kernel_rfl
theorem fo88_3 : FOff Try.prog 88 3 3 := fun _ _ => by kernel_rfl
theorem fo88_4 : FOff Try.prog 88 4 4 := fun _ _ => by kernel_rfl
theorem fo88_5 : FOff Try.prog 88 5 5 := fun _ _ => by kernel_rfl
theorem fo88_6 : FOff Try.prog 88 6 6 := fun _ _ => by kernel_rfl
theorem fo88_7 : FOff Try.prog 88 7 7 := fun _ _ => by kernel_rfl
theorem fo88_8 : FOff Try.prog 88 8 8 := fun _ _ => by kernel_rfl
theorem fo88_9 : FOff Try.prog 88 9 9 := fun _ _ => by kernel_rfl
theorem fo88_10 : FOff Try.prog 88 10 10 := fun _ _ => by kernel_rfl
def vv25 (x : Int × Int) : Value := .agg #[.int .i64 x.1, .int .i64 x.2]
def vv4 (x : Bool) : Value := .bool x
theorem ko25 : KeyOk Try.prog 25 vv25 :=
  ⟨fun e k w => by
    unfold vv25
    rw [run_checkKey_struct e 9999 25 _ (by kernel_rfl) w]
    have h3 : ∀ (e : Bool) (d : Nat) (n : Int) (w : World), (Instr.checkKey e (d + 1) 3 (.int .i64 n)).run Try.prog w = .ok () w := fun e d n w => ck_int (by kernel_rfl) e d n
    simp [go_sem, chkF, h3], fun k k' w => eql_of_bin (se25 k.1 k.2 k'.1 k'.2 w), ⟨.struct (Try.prog.fieldsOf 25), by kernel_rfl, fun k k' => .inl rfl⟩, fun k => by unfold vv25; simp [Instr.sameBits]⟩
theorem tm60 : Try.prog.underlying 60 = some (.map 25 4) := by kernel_rfl
theorem tzv60 : ∀ w, (zeroValue 4).run Try.prog w = .ok (vv4 false) w := zeroValue_of (by kernel_rfl)
theorem cf2 : CF Try.prog 2 := fun _ _ => by kernel_rfl
theorem cf3 : CF Try.prog 3 := fun _ _ => by kernel_rfl
theorem cf4 : CF Try.prog 4 := fun _ _ => by kernel_rfl
theorem cf5 : CF Try.prog 5 := fun _ _ => by kernel_rfl
theorem cf6 : CF Try.prog 6 := fun _ _ => by kernel_rfl
theorem cf7 : CF Try.prog 7 := fun _ _ => by kernel_rfl
theorem cf8 : CF Try.prog 8 := fun _ _ => by kernel_rfl
theorem cf9 : CF Try.prog 9 := fun _ _ => by kernel_rfl
theorem cf10 : CF Try.prog 10 := fun _ _ => by kernel_rfl
theorem cf11 : CF Try.prog 11 := fun _ _ => by kernel_rfl
theorem cf12 : CF Try.prog 12 := fun _ _ => by kernel_rfl
theorem cf13 : CF Try.prog 13 := fun _ _ => by kernel_rfl
theorem cf14 : CF Try.prog 14 := fun _ _ => by kernel_rfl
theorem cf15 : CF Try.prog 15 := fun _ _ => by kernel_rfl
theorem cf16 : CF Try.prog 16 := fun _ _ => by kernel_rfl
theorem cf17 : CF Try.prog 17 := fun _ _ => by kernel_rfl
theorem cf18 : CF Try.prog 18 := fun _ _ => by kernel_rfl
theorem cf19 : CF Try.prog 19 := fun _ _ => by kernel_rfl
theorem cf20 : CF Try.prog 20 := fun _ _ => by kernel_rfl
theorem cf21 : CF Try.prog 21 := fun _ _ => by kernel_rfl
theorem cf22 : CF Try.prog 22 := fun _ _ => by kernel_rfl
theorem cf23 : CF Try.prog 23 := fun _ _ => by kernel_rfl
theorem cf24 : CF Try.prog 24 := fun _ _ => by kernel_rfl
theorem cf25 : CF Try.prog 25 := fun _ _ => by kernel_rfl
theorem cf26 : CF Try.prog 26 := fun _ _ => by kernel_rfl
theorem cf27 : CF Try.prog 27 := fun _ _ => by kernel_rfl
theorem cf28 : CF Try.prog 28 := fun _ _ => by kernel_rfl
theorem cf29 : CF Try.prog 29 := fun _ _ => by kernel_rfl
theorem cf30 : CF Try.prog 30 := fun _ _ => by kernel_rfl
theorem cf31 : CF Try.prog 31 := fun _ _ => by kernel_rfl
theorem cf32 : CF Try.prog 32 := fun _ _ => by kernel_rfl
theorem cf33 : CF Try.prog 33 := fun _ _ => by kernel_rfl
theorem cf34 : CF Try.prog 34 := fun _ _ => by kernel_rfl
theorem cf35 : CF Try.prog 35 := fun _ _ => by kernel_rfl
theorem cf36 : CF Try.prog 36 := fun _ _ => by kernel_rfl
theorem cf37 : CF Try.prog 37 := fun _ _ => by kernel_rfl
theorem cf38 : CF Try.prog 38 := fun _ _ => by kernel_rfl
theorem cf39 : CF Try.prog 39 := fun _ _ => by kernel_rfl
theorem cf40 : CF Try.prog 40 := fun _ _ => by kernel_rfl
theorem cf41 : CF Try.prog 41 := fun _ _ => by kernel_rfl
theorem cf42 : CF Try.prog 42 := fun _ _ => by kernel_rfl
theorem cf43 : CF Try.prog 43 := fun _ _ => by kernel_rfl
theorem cf44 : CF Try.prog 44 := fun _ _ => by kernel_rfl
theorem cf45 : CF Try.prog 45 := fun _ _ => by kernel_rfl
end Go.Proofs.Ytopnbammdeimcaa
