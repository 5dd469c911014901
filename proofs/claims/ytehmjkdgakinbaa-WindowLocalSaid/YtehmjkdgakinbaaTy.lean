/-
  Closed facts on the types and functions of the program at hand, for the walks.
-/
import Derived.Test.YtehmjkdgakinbaaNest
import Derived.Test.YtehmjkdgakinbaaFl
import Derived.Test.YtehmjkdgakinbaaProg
import Derived.Laws.StructEq
import Derived.WalkKit
namespace Go.Proofs.Ytehmjkdgakinbaa
open Go.RowKit
theorem g_mixed : Try.prog.follows .mixedOrders = true := by kernel_rfl
theorem to1 : TOne Try.prog 1 := fun _ => by kernel_rfl
theorem ts1 : TSize Try.prog 1 1 := fun _ => by kernel_rfl
theorem to2 : TOne Try.prog 2 := fun _ => by kernel_rfl
theorem ts2 : TSize Try.prog 2 1 := fun _ => by kernel_rfl
def E2 : En (Int) := (En.int .i64)
abbrev R2 : Rep (Int) := Rep.fl E2
theorem tn2 : Try.prog.underlying 2 = some (.int .i64) := by kernel_rfl
theorem to3 : TOne Try.prog 3 := fun _ => by kernel_rfl
theorem ts3 : TSize Try.prog 3 1 := fun _ => by kernel_rfl
def E3 : En (Int) := (En.int .i64)
abbrev R3 : Rep (Int) := Rep.fl E3
theorem tn3 : Try.prog.underlying 3 = some (.int .i64) := by kernel_rfl
theorem to4 : TOne Try.prog 4 := fun _ => by kernel_rfl
theorem ts4 : TSize Try.prog 4 1 := fun _ => by kernel_rfl
def E4 : En (Bool) := En.bool
abbrev R4 : Rep (Bool) := Rep.fl E4
theorem tb4 : Try.prog.underlying 4 = some .bool := by kernel_rfl
theorem to5 : TOne Try.prog 5 := fun _ => by kernel_rfl
theorem ts5 : TSize Try.prog 5 1 := fun _ => by kernel_rfl
def E5 : En (Int) := (En.int .u8)
abbrev R5 : Rep (Int) := Rep.fl E5
theorem tn5 : Try.prog.underlying 5 = some (.int .u8) := by kernel_rfl
theorem to6 : TOne Try.prog 6 := fun _ => by kernel_rfl
theorem ts6 : TSize Try.prog 6 1 := fun _ => by kernel_rfl
def E6 : En (Int) := (En.int .u8)
abbrev R6 : Rep (Int) := Rep.fl E6
theorem tn6 : Try.prog.underlying 6 = some (.int .u8) := by kernel_rfl
theorem ta7 : TAgg Try.prog 7 4 := fun _ => ⟨by kernel_rfl, by kernel_rfl⟩
theorem ts7 : TSize Try.prog 7 4 := fun _ => by kernel_rfl
def E7 : En (Int × Int × Bool × Int) := (En.pr (En.int .i64) (En.pr (En.int .i64) (En.pr En.bool (En.int .u8))))
abbrev R7 : Rep (Int × Int × Bool × Int) := Rep.fl E7
theorem fo7_0 : FOff Try.prog 7 0 0 := fun _ _ => by kernel_rfl
theorem fo7_1 : FOff Try.prog 7 1 1 := fun _ _ => by kernel_rfl
theorem fo7_2 : FOff Try.prog 7 2 2 := fun _ _ => by kernel_rfl
theorem fo7_3 : FOff Try.prog 7 3 3 := fun _ _ => by kernel_rfl
theorem ta8 : TAgg Try.prog 8 4 := fun _ => ⟨by kernel_rfl, by kernel_rfl⟩
theorem ts8 : TSize Try.prog 8 4 := fun _ => by kernel_rfl
def E8 : En (Int × Int × Bool × Int) := (En.pr (En.int .i64) (En.pr (En.int .i64) (En.pr En.bool (En.int .u8))))
abbrev R8 : Rep (Int × Int × Bool × Int) := Rep.fl E8
theorem fo8_0 : FOff Try.prog 8 0 0 := fun _ _ => by kernel_rfl
theorem fo8_1 : FOff Try.prog 8 1 1 := fun _ _ => by kernel_rfl
theorem fo8_2 : FOff Try.prog 8 2 2 := fun _ _ => by kernel_rfl
theorem fo8_3 : FOff Try.prog 8 3 3 := fun _ _ => by kernel_rfl
theorem to9 : TOne Try.prog 9 := fun _ => by kernel_rfl
theorem ts9 : TSize Try.prog 9 1 := fun _ => by kernel_rfl
def E9 : En (ByteArray) := En.str
abbrev R9 : Rep (ByteArray) := Rep.fl E9
theorem to10 : TOne Try.prog 10 := fun _ => by kernel_rfl
theorem ts10 : TSize Try.prog 10 1 := fun _ => by kernel_rfl
def E10 : En (ByteArray) := En.str
abbrev R10 : Rep (ByteArray) := Rep.fl E10
theorem to11 : TOne Try.prog 11 := fun _ => by kernel_rfl
theorem ts11 : TSize Try.prog 11 1 := fun _ => by kernel_rfl
def E11 : En (ByteArray) := En.str
abbrev R11 : Rep (ByteArray) := Rep.fl E11
theorem to12 : TOne Try.prog 12 := fun _ => by kernel_rfl
theorem ts12 : TSize Try.prog 12 1 := fun _ => by kernel_rfl
def E12 : En (Int) := (En.int .u64)
abbrev R12 : Rep (Int) := Rep.fl E12
theorem tn12 : Try.prog.underlying 12 = some (.int .u64) := by kernel_rfl
theorem ta13 : TAgg Try.prog 13 2 := fun _ => ⟨by kernel_rfl, by kernel_rfl⟩
theorem ts13 : TSize Try.prog 13 2 := fun _ => by kernel_rfl
def E13 : En (ByteArray × Int) := (En.pr En.str (En.int .u64))
abbrev R13 : Rep (ByteArray × Int) := Rep.fl E13
theorem fo13_0 : FOff Try.prog 13 0 0 := fun _ _ => by kernel_rfl
theorem fo13_1 : FOff Try.prog 13 1 1 := fun _ _ => by kernel_rfl
theorem ta14 : TAgg Try.prog 14 2 := fun _ => ⟨by kernel_rfl, by kernel_rfl⟩
theorem ts14 : TSize Try.prog 14 2 := fun _ => by kernel_rfl
def E14 : En (ByteArray × Int) := (En.pr En.str (En.int .u64))
abbrev R14 : Rep (ByteArray × Int) := Rep.fl E14
theorem fo14_0 : FOff Try.prog 14 0 0 := fun _ _ => by kernel_rfl
theorem fo14_1 : FOff Try.prog 14 1 1 := fun _ _ => by kernel_rfl
theorem to15 : TOne Try.prog 15 := fun _ => by kernel_rfl
theorem ts15 : TSize Try.prog 15 1 := fun _ => by kernel_rfl
theorem to16 : TOne Try.prog 16 := fun _ => by kernel_rfl
theorem ts16 : TSize Try.prog 16 1 := fun _ => by kernel_rfl
theorem to17 : TOne Try.prog 17 := fun _ => by kernel_rfl
theorem ts17 : TSize Try.prog 17 1 := fun _ => by kernel_rfl
theorem ta18 : TAgg Try.prog 18 1 := fun _ => ⟨by kernel_rfl, by kernel_rfl⟩
theorem ts18 : TSize Try.prog 18 1 := fun _ => by kernel_rfl
theorem fo18_0 : FOff Try.prog 18 0 0 := fun _ _ => by kernel_rfl
theorem ta19 : TAgg Try.prog 19 1 := fun _ => ⟨by kernel_rfl, by kernel_rfl⟩
theorem ts19 : TSize Try.prog 19 1 := fun _ => by kernel_rfl
theorem fo19_0 : FOff Try.prog 19 0 0 := fun _ _ => by kernel_rfl
theorem to21 : TOne Try.prog 21 := fun _ => by kernel_rfl
theorem ts21 : TSize Try.prog 21 1 := fun _ => by kernel_rfl
def E21 : En (Int) := (En.int .i32)
abbrev R21 : Rep (Int) := Rep.fl E21
theorem tn21 : Try.prog.underlying 21 = some (.int .i32) := by kernel_rfl
theorem ta22 : TAgg Try.prog 22 2 := fun _ => ⟨by kernel_rfl, by kernel_rfl⟩
theorem ts22 : TSize Try.prog 22 2 := fun _ => by kernel_rfl
def E22 : En (Int × Int) := (En.pr (En.int .i64) (En.int .i64))
abbrev R22 : Rep (Int × Int) := Rep.fl E22
theorem fo22_0 : FOff Try.prog 22 0 0 := fun _ _ => by kernel_rfl
theorem fo22_1 : FOff Try.prog 22 1 1 := fun _ _ => by kernel_rfl
theorem se22 (x0 x1 y0 y1 : Int) (w : World) : (binOp .eql 22 (.agg #[.int .i64 x0, .int .i64 x1]) (.agg #[.int .i64 y0, .int .i64 y1])).run Try.prog w = .ok (.bool (decide ((x0, x1) = (y0, y1)))) w := by
  go_simp
  by_cases h0 : x0 = y0 <;> by_cases h1 : x1 = y1 <;> simp [h0, h1]
theorem sn22 (x0 x1 y0 y1 : Int) (w : World) : (binOp .neq 22 (.agg #[.int .i64 x0, .int .i64 x1]) (.agg #[.int .i64 y0, .int .i64 y1])).run Try.prog w = .ok (.bool (!decide ((x0, x1) = (y0, y1)))) w := by
  go_simp
  by_cases h0 : x0 = y0 <;> by_cases h1 : x1 = y1 <;> simp [h0, h1]
theorem sg22 : TGuard Try.prog 22 := fun op x y xs ys w => run_eqGuard_agg w op 22 x y xs ys (by kernel_rfl)
theorem ta23 : TAgg Try.prog 23 2 := fun _ => ⟨by kernel_rfl, by kernel_rfl⟩
theorem ts23 : TSize Try.prog 23 2 := fun _ => by kernel_rfl
def E23 : En (Int × Int) := (En.pr (En.int .i64) (En.int .i64))
abbrev R23 : Rep (Int × Int) := Rep.fl E23
theorem fo23_0 : FOff Try.prog 23 0 0 := fun _ _ => by kernel_rfl
theorem fo23_1 : FOff Try.prog 23 1 1 := fun _ _ => by kernel_rfl
theorem se23 (x0 x1 y0 y1 : Int) (w : World) : (binOp .eql 23 (.agg #[.int .i64 x0, .int .i64 x1]) (.agg #[.int .i64 y0, .int .i64 y1])).run Try.prog w = .ok (.bool (decide ((x0, x1) = (y0, y1)))) w := by
  go_simp
  by_cases h0 : x0 = y0 <;> by_cases h1 : x1 = y1 <;> simp [h0, h1]
theorem sn23 (x0 x1 y0 y1 : Int) (w : World) : (binOp .neq 23 (.agg #[.int .i64 x0, .int .i64 x1]) (.agg #[.int .i64 y0, .int .i64 y1])).run Try.prog w = .ok (.bool (!decide ((x0, x1) = (y0, y1)))) w := by
  go_simp
  by_cases h0 : x0 = y0 <;> by_cases h1 : x1 = y1 <;> simp [h0, h1]
theorem sg23 : TGuard Try.prog 23 := fun op x y xs ys w => run_eqGuard_agg w op 23 x y xs ys (by kernel_rfl)
theorem ta24 : TAgg Try.prog 24 4 := fun _ => ⟨by kernel_rfl, by kernel_rfl⟩
theorem ts24 : TSize Try.prog 24 4 := fun _ => by kernel_rfl
def E24 : En ((Int × Int) × (Int × Int)) := (En.pr (En.pr (En.int .i64) (En.int .i64)) (En.pr (En.int .i64) (En.int .i64)))
abbrev R24 : Rep ((Int × Int) × (Int × Int)) := Rep.fl E24
theorem fo24_0 : FOff Try.prog 24 0 0 := fun _ _ => by kernel_rfl
theorem fo24_1 : FOff Try.prog 24 1 2 := fun _ _ => by kernel_rfl
theorem se24 (x0 x1 x2 x3 y0 y1 y2 y3 : Int) (w : World) : (binOp .eql 24 (.agg #[.int .i64 x0, .int .i64 x1, .int .i64 x2, .int .i64 x3]) (.agg #[.int .i64 y0, .int .i64 y1, .int .i64 y2, .int .i64 y3])).run Try.prog w = .ok (.bool (decide (((x0, x1), (x2, x3)) = ((y0, y1), (y2, y3))))) w := by
  go_simp
  by_cases h0 : x0 = y0 <;> by_cases h1 : x1 = y1 <;> by_cases h2 : x2 = y2 <;> by_cases h3 : x3 = y3 <;> simp [h0, h1, h2, h3]
theorem sn24 (x0 x1 x2 x3 y0 y1 y2 y3 : Int) (w : World) : (binOp .neq 24 (.agg #[.int .i64 x0, .int .i64 x1, .int .i64 x2, .int .i64 x3]) (.agg #[.int .i64 y0, .int .i64 y1, .int .i64 y2, .int .i64 y3])).run Try.prog w = .ok (.bool (!decide (((x0, x1), (x2, x3)) = ((y0, y1), (y2, y3))))) w := by
  go_simp
  by_cases h0 : x0 = y0 <;> by_cases h1 : x1 = y1 <;> by_cases h2 : x2 = y2 <;> by_cases h3 : x3 = y3 <;> simp [h0, h1, h2, h3]
theorem sg24 : TGuard Try.prog 24 := fun op x y xs ys w => run_eqGuard_agg w op 24 x y xs ys (by kernel_rfl)
theorem ta25 : TAgg Try.prog 25 4 := fun _ => ⟨by kernel_rfl, by kernel_rfl⟩
theorem ts25 : TSize Try.prog 25 4 := fun _ => by kernel_rfl
def E25 : En ((Int × Int) × (Int × Int)) := (En.pr (En.pr (En.int .i64) (En.int .i64)) (En.pr (En.int .i64) (En.int .i64)))
abbrev R25 : Rep ((Int × Int) × (Int × Int)) := Rep.fl E25
theorem fo25_0 : FOff Try.prog 25 0 0 := fun _ _ => by kernel_rfl
theorem fo25_1 : FOff Try.prog 25 1 2 := fun _ _ => by kernel_rfl
theorem se25 (x0 x1 x2 x3 y0 y1 y2 y3 : Int) (w : World) : (binOp .eql 25 (.agg #[.int .i64 x0, .int .i64 x1, .int .i64 x2, .int .i64 x3]) (.agg #[.int .i64 y0, .int .i64 y1, .int .i64 y2, .int .i64 y3])).run Try.prog w = .ok (.bool (decide (((x0, x1), (x2, x3)) = ((y0, y1), (y2, y3))))) w := by
  go_simp
  by_cases h0 : x0 = y0 <;> by_cases h1 : x1 = y1 <;> by_cases h2 : x2 = y2 <;> by_cases h3 : x3 = y3 <;> simp [h0, h1, h2, h3]
theorem sn25 (x0 x1 x2 x3 y0 y1 y2 y3 : Int) (w : World) : (binOp .neq 25 (.agg #[.int .i64 x0, .int .i64 x1, .int .i64 x2, .int .i64 x3]) (.agg #[.int .i64 y0, .int .i64 y1, .int .i64 y2, .int .i64 y3])).run Try.prog w = .ok (.bool (!decide (((x0, x1), (x2, x3)) = ((y0, y1), (y2, y3))))) w := by
  go_simp
  by_cases h0 : x0 = y0 <;> by_cases h1 : x1 = y1 <;> by_cases h2 : x2 = y2 <;> by_cases h3 : x3 = y3 <;> simp [h0, h1, h2, h3]
theorem sg25 : TGuard Try.prog 25 := fun op x y xs ys w => run_eqGuard_agg w op 25 x y xs ys (by kernel_rfl)
theorem ta26 : TAgg Try.prog 26 3 := fun _ => ⟨by kernel_rfl, by kernel_rfl⟩
theorem ts26 : TSize Try.prog 26 3 := fun _ => by kernel_rfl
def E26 : En (Int × Int × Int) := (En.pr (En.int .i64) (En.pr (En.int .i64) (En.int .i64)))
abbrev R26 : Rep (Int × Int × Int) := Rep.fl E26
theorem fo26_0 : FOff Try.prog 26 0 0 := fun _ _ => by kernel_rfl
theorem fo26_1 : FOff Try.prog 26 1 1 := fun _ _ => by kernel_rfl
theorem fo26_2 : FOff Try.prog 26 2 2 := fun _ _ => by kernel_rfl
theorem se26 (x0 x1 x2 y0 y1 y2 : Int) (w : World) : (binOp .eql 26 (.agg #[.int .i64 x0, .int .i64 x1, .int .i64 x2]) (.agg #[.int .i64 y0, .int .i64 y1, .int .i64 y2])).run Try.prog w = .ok (.bool (decide ((x0, x1, x2) = (y0, y1, y2)))) w := by
  go_simp
  by_cases h0 : x0 = y0 <;> by_cases h1 : x1 = y1 <;> by_cases h2 : x2 = y2 <;> simp [h0, h1, h2]
theorem sn26 (x0 x1 x2 y0 y1 y2 : Int) (w : World) : (binOp .neq 26 (.agg #[.int .i64 x0, .int .i64 x1, .int .i64 x2]) (.agg #[.int .i64 y0, .int .i64 y1, .int .i64 y2])).run Try.prog w = .ok (.bool (!decide ((x0, x1, x2) = (y0, y1, y2)))) w := by
  go_simp
  by_cases h0 : x0 = y0 <;> by_cases h1 : x1 = y1 <;> by_cases h2 : x2 = y2 <;> simp [h0, h1, h2]
theorem sg26 : TGuard Try.prog 26 := fun op x y xs ys w => run_eqGuard_agg w op 26 x y xs ys (by kernel_rfl)
theorem ta27 : TAgg Try.prog 27 3 := fun _ => ⟨by kernel_rfl, by kernel_rfl⟩
theorem ts27 : TSize Try.prog 27 3 := fun _ => by kernel_rfl
def E27 : En (Int × Int × Int) := (En.pr (En.int .i64) (En.pr (En.int .i64) (En.int .i64)))
abbrev R27 : Rep (Int × Int × Int) := Rep.fl E27
theorem fo27_0 : FOff Try.prog 27 0 0 := fun _ _ => by kernel_rfl
theorem fo27_1 : FOff Try.prog 27 1 1 := fun _ _ => by kernel_rfl
theorem fo27_2 : FOff Try.prog 27 2 2 := fun _ _ => by kernel_rfl
theorem se27 (x0 x1 x2 y0 y1 y2 : Int) (w : World) : (binOp .eql 27 (.agg #[.int .i64 x0, .int .i64 x1, .int .i64 x2]) (.agg #[.int .i64 y0, .int .i64 y1, .int .i64 y2])).run Try.prog w = .ok (.bool (decide ((x0, x1, x2) = (y0, y1, y2)))) w := by
  go_simp
  by_cases h0 : x0 = y0 <;> by_cases h1 : x1 = y1 <;> by_cases h2 : x2 = y2 <;> simp [h0, h1, h2]
theorem sn27 (x0 x1 x2 y0 y1 y2 : Int) (w : World) : (binOp .neq 27 (.agg #[.int .i64 x0, .int .i64 x1, .int .i64 x2]) (.agg #[.int .i64 y0, .int .i64 y1, .int .i64 y2])).run Try.prog w = .ok (.bool (!decide ((x0, x1, x2) = (y0, y1, y2)))) w := by
  go_simp
  by_cases h0 : x0 = y0 <;> by_cases h1 : x1 = y1 <;> by_cases h2 : x2 = y2 <;> simp [h0, h1, h2]
theorem sg27 : TGuard Try.prog 27 := fun op x y xs ys w => run_eqGuard_agg w op 27 x y xs ys (by kernel_rfl)
theorem to29 : TOne Try.prog 29 := fun _ => by kernel_rfl
theorem ts29 : TSize Try.prog 29 1 := fun _ => by kernel_rfl
theorem ta30 : TAgg Try.prog 30 3 := fun _ => ⟨by kernel_rfl, by kernel_rfl⟩
theorem ts30 : TSize Try.prog 30 3 := fun _ => by kernel_rfl
def E30 : En (Int × Int × Int) := (En.pr (En.int .i64) (En.pr (En.int .i64) (En.int .i64)))
abbrev R30 : Rep (Int × Int × Int) := Rep.fl E30
theorem fo30_0 : FOff Try.prog 30 0 0 := fun _ _ => by kernel_rfl
theorem fo30_1 : FOff Try.prog 30 1 1 := fun _ _ => by kernel_rfl
theorem fo30_2 : FOff Try.prog 30 2 2 := fun _ _ => by kernel_rfl
theorem se30 (x0 x1 x2 y0 y1 y2 : Int) (w : World) : (binOp .eql 30 (.agg #[.int .i64 x0, .int .i64 x1, .int .i64 x2]) (.agg #[.int .i64 y0, .int .i64 y1, .int .i64 y2])).run Try.prog w = .ok (.bool (decide ((x0, x1, x2) = (y0, y1, y2)))) w := by
  go_simp
  by_cases h0 : x0 = y0 <;> by_cases h1 : x1 = y1 <;> by_cases h2 : x2 = y2 <;> simp [h0, h1, h2]
theorem sn30 (x0 x1 x2 y0 y1 y2 : Int) (w : World) : (binOp .neq 30 (.agg #[.int .i64 x0, .int .i64 x1, .int .i64 x2]) (.agg #[.int .i64 y0, .int .i64 y1, .int .i64 y2])).run Try.prog w = .ok (.bool (!decide ((x0, x1, x2) = (y0, y1, y2)))) w := by
  go_simp
  by_cases h0 : x0 = y0 <;> by_cases h1 : x1 = y1 <;> by_cases h2 : x2 = y2 <;> simp [h0, h1, h2]
theorem sg30 : TGuard Try.prog 30 := fun op x y xs ys w => run_eqGuard_agg w op 30 x y xs ys (by kernel_rfl)
theorem to32 : TOne Try.prog 32 := fun _ => by kernel_rfl
theorem ts32 : TSize Try.prog 32 1 := fun _ => by kernel_rfl
theorem ta33 : TAgg Try.prog 33 2 := fun _ => ⟨by kernel_rfl, by kernel_rfl⟩
theorem ts33 : TSize Try.prog 33 2 := fun _ => by kernel_rfl
def E33 : En (Int × Int) := (En.pr (En.int .i64) (En.int .i64))
abbrev R33 : Rep (Int × Int) := Rep.fl E33
theorem fo33_0 : FOff Try.prog 33 0 0 := fun _ _ => by kernel_rfl
theorem fo33_1 : FOff Try.prog 33 1 1 := fun _ _ => by kernel_rfl
theorem se33 (x0 x1 y0 y1 : Int) (w : World) : (binOp .eql 33 (.agg #[.int .i64 x0, .int .i64 x1]) (.agg #[.int .i64 y0, .int .i64 y1])).run Try.prog w = .ok (.bool (decide ((x0, x1) = (y0, y1)))) w := by
  go_simp
  by_cases h0 : x0 = y0 <;> by_cases h1 : x1 = y1 <;> simp [h0, h1]
theorem sn33 (x0 x1 y0 y1 : Int) (w : World) : (binOp .neq 33 (.agg #[.int .i64 x0, .int .i64 x1]) (.agg #[.int .i64 y0, .int .i64 y1])).run Try.prog w = .ok (.bool (!decide ((x0, x1) = (y0, y1)))) w := by
  go_simp
  by_cases h0 : x0 = y0 <;> by_cases h1 : x1 = y1 <;> simp [h0, h1]
theorem sg33 : TGuard Try.prog 33 := fun op x y xs ys w => run_eqGuard_agg w op 33 x y xs ys (by kernel_rfl)
theorem to34 : TOne Try.prog 34 := fun _ => by kernel_rfl
theorem ts34 : TSize Try.prog 34 1 := fun _ => by kernel_rfl
theorem to35 : TOne Try.prog 35 := fun _ => by kernel_rfl
theorem ts35 : TSize Try.prog 35 1 := fun _ => by kernel_rfl
abbrev R35 : Rep (List (Int × Int × Int)) := Rep.sl R27
abbrev X35 : Ex R35 (Option Addr × Nat) := Ex.sl R27
theorem tl35 : TSlice Try.prog 35 3 := ⟨27, by kernel_rfl, fun _ => by kernel_rfl⟩
theorem tu35 : Try.prog.underlying 35 = some (.slice 27) := by kernel_rfl
theorem tp35 : TApp Try.prog 35 27 3 24 := tapp_of (z := .agg #[.int .i64 0, .int .i64 0, .int .i64 0]) (by kernel_rfl) (by kernel_rfl) (by kernel_rfl) (by decide)
theorem to36 : TOne Try.prog 36 := fun _ => by kernel_rfl
theorem ts36 : TSize Try.prog 36 1 := fun _ => by kernel_rfl
theorem to37 : TOne Try.prog 37 := fun _ => by kernel_rfl
theorem ts37 : TSize Try.prog 37 1 := fun _ => by kernel_rfl
theorem to38 : TOne Try.prog 38 := fun _ => by kernel_rfl
theorem ts38 : TSize Try.prog 38 1 := fun _ => by kernel_rfl
abbrev R38 : Rep (List (Int × Int × Int)) := Rep.sl R30
abbrev X38 : Ex R38 (Option Addr × Nat) := Ex.sl R30
theorem tl38 : TSlice Try.prog 38 3 := ⟨30, by kernel_rfl, fun _ => by kernel_rfl⟩
theorem tu38 : Try.prog.underlying 38 = some (.slice 30) := by kernel_rfl
theorem tp38 : TApp Try.prog 38 30 3 24 := tapp_of (z := .agg #[.int .i64 0, .int .i64 0, .int .i64 0]) (by kernel_rfl) (by kernel_rfl) (by kernel_rfl) (by decide)
theorem to39 : TOne Try.prog 39 := fun _ => by kernel_rfl
theorem ts39 : TSize Try.prog 39 1 := fun _ => by kernel_rfl
theorem ta40 : TAgg Try.prog 40 4 := fun _ => ⟨by kernel_rfl, by kernel_rfl⟩
theorem ts40 : TSize Try.prog 40 4 := fun _ => by kernel_rfl
def E40 : En ((Int × Int) × (Int × Int)) := (En.pr (En.pr (En.int .i64) (En.int .i64)) (En.pr (En.int .i64) (En.int .i64)))
abbrev R40 : Rep ((Int × Int) × (Int × Int)) := Rep.fl E40
theorem fo40_0 : FOff Try.prog 40 0 0 := fun _ _ => by kernel_rfl
theorem fo40_1 : FOff Try.prog 40 1 2 := fun _ _ => by kernel_rfl
theorem se40 (x0 x1 x2 x3 y0 y1 y2 y3 : Int) (w : World) : (binOp .eql 40 (.agg #[.int .i64 x0, .int .i64 x1, .int .i64 x2, .int .i64 x3]) (.agg #[.int .i64 y0, .int .i64 y1, .int .i64 y2, .int .i64 y3])).run Try.prog w = .ok (.bool (decide (((x0, x1), (x2, x3)) = ((y0, y1), (y2, y3))))) w := by
  go_simp
  by_cases h0 : x0 = y0 <;> by_cases h1 : x1 = y1 <;> by_cases h2 : x2 = y2 <;> by_cases h3 : x3 = y3 <;> simp [h0, h1, h2, h3]
theorem sn40 (x0 x1 x2 x3 y0 y1 y2 y3 : Int) (w : World) : (binOp .neq 40 (.agg #[.int .i64 x0, .int .i64 x1, .int .i64 x2, .int .i64 x3]) (.agg #[.int .i64 y0, .int .i64 y1, .int .i64 y2, .int .i64 y3])).run Try.prog w = .ok (.bool (!decide (((x0, x1), (x2, x3)) = ((y0, y1), (y2, y3))))) w := by
  go_simp
  by_cases h0 : x0 = y0 <;> by_cases h1 : x1 = y1 <;> by_cases h2 : x2 = y2 <;> by_cases h3 : x3 = y3 <;> simp [h0, h1, h2, h3]
theorem sg40 : TGuard Try.prog 40 := fun op x y xs ys w => run_eqGuard_agg w op 40 x y xs ys (by kernel_rfl)
theorem ta41 : TAgg Try.prog 41 4 := fun _ => ⟨by kernel_rfl, by kernel_rfl⟩
theorem ts41 : TSize Try.prog 41 4 := fun _ => by kernel_rfl
def E41 : En ((Int × Int) × (Int × Int)) := (En.pr (En.pr (En.int .i64) (En.int .i64)) (En.pr (En.int .i64) (En.int .i64)))
abbrev R41 : Rep ((Int × Int) × (Int × Int)) := Rep.fl E41
theorem fo41_0 : FOff Try.prog 41 0 0 := fun _ _ => by kernel_rfl
theorem fo41_1 : FOff Try.prog 41 1 2 := fun _ _ => by kernel_rfl
theorem se41 (x0 x1 x2 x3 y0 y1 y2 y3 : Int) (w : World) : (binOp .eql 41 (.agg #[.int .i64 x0, .int .i64 x1, .int .i64 x2, .int .i64 x3]) (.agg #[.int .i64 y0, .int .i64 y1, .int .i64 y2, .int .i64 y3])).run Try.prog w = .ok (.bool (decide (((x0, x1), (x2, x3)) = ((y0, y1), (y2, y3))))) w := by
  go_simp
  by_cases h0 : x0 = y0 <;> by_cases h1 : x1 = y1 <;> by_cases h2 : x2 = y2 <;> by_cases h3 : x3 = y3 <;> simp [h0, h1, h2, h3]
theorem sn41 (x0 x1 x2 x3 y0 y1 y2 y3 : Int) (w : World) : (binOp .neq 41 (.agg #[.int .i64 x0, .int .i64 x1, .int .i64 x2, .int .i64 x3]) (.agg #[.int .i64 y0, .int .i64 y1, .int .i64 y2, .int .i64 y3])).run Try.prog w = .ok (.bool (!decide (((x0, x1), (x2, x3)) = ((y0, y1), (y2, y3))))) w := by
  go_simp
  by_cases h0 : x0 = y0 <;> by_cases h1 : x1 = y1 <;> by_cases h2 : x2 = y2 <;> by_cases h3 : x3 = y3 <;> simp [h0, h1, h2, h3]
theorem sg41 : TGuard Try.prog 41 := fun op x y xs ys w => run_eqGuard_agg w op 41 x y xs ys (by kernel_rfl)
theorem to42 : TOne Try.prog 42 := fun _ => by kernel_rfl
theorem ts42 : TSize Try.prog 42 1 := fun _ => by kernel_rfl
theorem to44 : TOne Try.prog 44 := fun _ => by kernel_rfl
theorem ts44 : TSize Try.prog 44 1 := fun _ => by kernel_rfl
theorem to45 : TOne Try.prog 45 := fun _ => by kernel_rfl
theorem ts45 : TSize Try.prog 45 1 := fun _ => by kernel_rfl
theorem to46 : TOne Try.prog 46 := fun _ => by kernel_rfl
theorem ts46 : TSize Try.prog 46 1 := fun _ => by kernel_rfl
theorem to47 : TOne Try.prog 47 := fun _ => by kernel_rfl
theorem ts47 : TSize Try.prog 47 1 := fun _ => by kernel_rfl
theorem to48 : TOne Try.prog 48 := fun _ => by kernel_rfl
theorem ts48 : TSize Try.prog 48 1 := fun _ => by kernel_rfl
theorem to49 : TOne Try.prog 49 := fun _ => by kernel_rfl
theorem ts49 : TSize Try.prog 49 1 := fun _ => by kernel_rfl
theorem to50 : TOne Try.prog 50 := fun _ => by kernel_rfl
theorem ts50 : TSize Try.prog 50 1 := fun _ => by kernel_rfl
theorem to52 : TOne Try.prog 52 := fun _ => by kernel_rfl
theorem ts52 : TSize Try.prog 52 1 := fun _ => by kernel_rfl
theorem to53 : TOne Try.prog 53 := fun _ => by kernel_rfl
theorem ts53 : TSize Try.prog 53 1 := fun _ => by kernel_rfl
theorem to54 : TOne Try.prog 54 := fun _ => by kernel_rfl
theorem ts54 : TSize Try.prog 54 1 := fun _ => by kernel_rfl
theorem to55 : TOne Try.prog 55 := fun _ => by kernel_rfl
theorem ts55 : TSize Try.prog 55 1 := fun _ => by kernel_rfl
theorem to56 : TOne Try.prog 56 := fun _ => by kernel_rfl
theorem ts56 : TSize Try.prog 56 1 := fun _ => by kernel_rfl
theorem to57 : TOne Try.prog 57 := fun _ => by kernel_rfl
theorem ts57 : TSize Try.prog 57 1 := fun _ => by kernel_rfl
theorem to58 : TOne Try.prog 58 := fun _ => by kernel_rfl
theorem ts58 : TSize Try.prog 58 1 := fun _ => by kernel_rfl
theorem to59 : TOne Try.prog 59 := fun _ => by kernel_rfl
theorem ts59 : TSize Try.prog 59 1 := fun _ => by kernel_rfl
theorem to60 : TOne Try.prog 60 := fun _ => by kernel_rfl
theorem ts60 : TSize Try.prog 60 1 := fun _ => by kernel_rfl
abbrev R60 : Rep (List (Int × Int)) := Rep.sl R23
abbrev X60 : Ex R60 (Option Addr × Nat) := Ex.sl R23
theorem tl60 : TSlice Try.prog 60 2 := ⟨23, by kernel_rfl, fun _ => by kernel_rfl⟩
theorem tu60 : Try.prog.underlying 60 = some (.slice 23) := by kernel_rfl
theorem tp60 : TApp Try.prog 60 23 2 16 := tapp_of (z := .agg #[.int .i64 0, .int .i64 0]) (by kernel_rfl) (by kernel_rfl) (by kernel_rfl) (by decide)
theorem to61 : TOne Try.prog 61 := fun _ => by kernel_rfl
theorem ts61 : TSize Try.prog 61 1 := fun _ => by kernel_rfl
theorem to62 : TOne Try.prog 62 := fun _ => by kernel_rfl
theorem ts62 : TSize Try.prog 62 1 := fun _ => by kernel_rfl
theorem to63 : TOne Try.prog 63 := fun _ => by kernel_rfl
theorem ts63 : TSize Try.prog 63 1 := fun _ => by kernel_rfl
theorem to64 : TOne Try.prog 64 := fun _ => by kernel_rfl
theorem ts64 : TSize Try.prog 64 1 := fun _ => by kernel_rfl
abbrev R64 : Rep (List (Int × Int)) := Rep.sl R33
abbrev X64 : Ex R64 (Option Addr × Nat) := Ex.sl R33
theorem tl64 : TSlice Try.prog 64 2 := ⟨33, by kernel_rfl, fun _ => by kernel_rfl⟩
theorem tu64 : Try.prog.underlying 64 = some (.slice 33) := by kernel_rfl
theorem tp64 : TApp Try.prog 64 33 2 16 := tapp_of (z := .agg #[.int .i64 0, .int .i64 0]) (by kernel_rfl) (by kernel_rfl) (by kernel_rfl) (by decide)
theorem to65 : TOne Try.prog 65 := fun _ => by kernel_rfl
theorem ts65 : TSize Try.prog 65 1 := fun _ => by kernel_rfl
theorem to66 : TOne Try.prog 66 := fun _ => by kernel_rfl
theorem ts66 : TSize Try.prog 66 1 := fun _ => by kernel_rfl
theorem to68 : TOne Try.prog 68 := fun _ => by kernel_rfl
theorem ts68 : TSize Try.prog 68 1 := fun _ => by kernel_rfl
theorem to69 : TOne Try.prog 69 := fun _ => by kernel_rfl
theorem ts69 : TSize Try.prog 69 1 := fun _ => by kernel_rfl
theorem to70 : TOne Try.prog 70 := fun _ => by kernel_rfl
theorem ts70 : TSize Try.prog 70 1 := fun _ => by kernel_rfl
theorem to71 : TOne Try.prog 71 := fun _ => by kernel_rfl
theorem ts71 : TSize Try.prog 71 1 := fun _ => by kernel_rfl
theorem to72 : TOne Try.prog 72 := fun _ => by kernel_rfl
theorem ts72 : TSize Try.prog 72 1 := fun _ => by kernel_rfl
theorem to73 : TOne Try.prog 73 := fun _ => by kernel_rfl
theorem ts73 : TSize Try.prog 73 1 := fun _ => by kernel_rfl
theorem to74 : TOne Try.prog 74 := fun _ => by kernel_rfl
theorem ts74 : TSize Try.prog 74 1 := fun _ => by kernel_rfl
theorem to75 : TOne Try.prog 75 := fun _ => by kernel_rfl
theorem ts75 : TSize Try.prog 75 1 := fun _ => by kernel_rfl
theorem to76 : TOne Try.prog 76 := fun _ => by kernel_rfl
theorem ts76 : TSize Try.prog 76 1 := fun _ => by kernel_rfl
theorem to77 : TOne Try.prog 77 := fun _ => by kernel_rfl
theorem ts77 : TSize Try.prog 77 1 := fun _ => by kernel_rfl
theorem to78 : TOne Try.prog 78 := fun _ => by kernel_rfl
theorem ts78 : TSize Try.prog 78 1 := fun _ => by kernel_rfl
theorem to79 : TOne Try.prog 79 := fun _ => by kernel_rfl
theorem ts79 : TSize Try.prog 79 1 := fun _ => by kernel_rfl
theorem to80 : TOne Try.prog 80 := fun _ => by kernel_rfl
theorem ts80 : TSize Try.prog 80 1 := fun _ => by kernel_rfl
theorem to81 : TOne Try.prog 81 := fun _ => by kernel_rfl
theorem ts81 : TSize Try.prog 81 1 := fun _ => by kernel_rfl
theorem to82 : TOne Try.prog 82 := fun _ => by kernel_rfl
theorem ts82 : TSize Try.prog 82 1 := fun _ => by kernel_rfl
theorem to83 : TOne Try.prog 83 := fun _ => by kernel_rfl
theorem ts83 : TSize Try.prog 83 1 := fun _ => by kernel_rfl
theorem ta84 : TAgg Try.prog 84 4 := fun _ => ⟨by kernel_rfl, by kernel_rfl⟩
theorem ts84 : TSize Try.prog 84 4 := fun _ => by kernel_rfl
theorem fo84_0 : FOff Try.prog 84 0 0 := fun _ _ => by kernel_rfl
theorem fo84_1 : FOff Try.prog 84 1 1 := fun _ _ => by kernel_rfl
theorem fo84_2 : FOff Try.prog 84 2 2 := fun _ _ => by kernel_rfl
theorem fo84_3 : FOff Try.prog 84 3 3 := fun _ _ => by kernel_rfl
theorem ta85 : TAgg Try.prog 85 4 := fun _ => ⟨by kernel_rfl, by kernel_rfl⟩
theorem ts85 : TSize Try.prog 85 4 := fun _ => by kernel_rfl
theorem fo85_0 : FOff Try.prog 85 0 0 := fun _ _ => by kernel_rfl
theorem fo85_1 : FOff Try.prog 85 1 1 := fun _ _ => by kernel_rfl
theorem fo85_2 : FOff Try.prog 85 2 2 := fun _ _ => by kernel_rfl
theorem fo85_3 : FOff Try.prog 85 3 3 := fun _ _ => by kernel_rfl
theorem ta86 : TAgg Try.prog 86 0 := fun _ => ⟨by kernel_rfl, by kernel_rfl⟩
theorem ts86 : TSize Try.prog 86 0 := fun _ => by kernel_rfl
theorem tr86 : Try.prog.underlying 86 = some (.array 0 16) := by kernel_rfl
theorem ta87 : TAgg Try.prog 87 0 := fun _ => ⟨by kernel_rfl, by kernel_rfl⟩
theorem ts87 : TSize Try.prog 87 0 := fun _ => by kernel_rfl
theorem ta88 : TAgg Try.prog 88 0 := fun _ => ⟨by kernel_rfl, by kernel_rfl⟩
theorem ts88 : TSize Try.prog 88 0 := fun _ => by kernel_rfl
theorem to89 : TOne Try.prog 89 := fun _ => by kernel_rfl
theorem ts89 : TSize Try.prog 89 1 := fun _ => by kernel_rfl
theorem to90 : TOne Try.prog 90 := fun _ => by kernel_rfl
theorem ts90 : TSize Try.prog 90 1 := fun _ => by kernel_rfl
def E90 : En (Int) := (En.int .u32)
abbrev R90 : Rep (Int) := Rep.fl E90
theorem tn90 : Try.prog.underlying 90 = some (.int .u32) := by kernel_rfl
theorem to91 : TOne Try.prog 91 := fun _ => by kernel_rfl
theorem ts91 : TSize Try.prog 91 1 := fun _ => by kernel_rfl
def E91 : En (Int) := (En.int .u8)
abbrev R91 : Rep (Int) := Rep.fl E91
theorem tn91 : Try.prog.underlying 91 = some (.int .u8) := by kernel_rfl
theorem to92 : TOne Try.prog 92 := fun _ => by kernel_rfl
theorem ts92 : TSize Try.prog 92 1 := fun _ => by kernel_rfl
def E92 : En (Int) := (En.int .u8)
abbrev R92 : Rep (Int) := Rep.fl E92
theorem tn92 : Try.prog.underlying 92 = some (.int .u8) := by kernel_rfl
theorem to93 : TOne Try.prog 93 := fun _ => by kernel_rfl
theorem ts93 : TSize Try.prog 93 1 := fun _ => by kernel_rfl
theorem to94 : TOne Try.prog 94 := fun _ => by kernel_rfl
theorem ts94 : TSize Try.prog 94 1 := fun _ => by kernel_rfl
theorem to95 : TOne Try.prog 95 := fun _ => by kernel_rfl
theorem ts95 : TSize Try.prog 95 1 := fun _ => by kernel_rfl
def E95 : En (Int) := (En.int .i32)
abbrev R95 : Rep (Int) := Rep.fl E95
theorem tn95 : Try.prog.underlying 95 = some (.int .i32) := by kernel_rfl
theorem to96 : TOne Try.prog 96 := fun _ => by kernel_rfl
theorem ts96 : TSize Try.prog 96 1 := fun _ => by kernel_rfl
def E96 : En (Int) := (En.int .i32)
abbrev R96 : Rep (Int) := Rep.fl E96
theorem tn96 : Try.prog.underlying 96 = some (.int .i32) := by kernel_rfl
theorem ta97 : TAgg Try.prog 97 11 := fun _ => ⟨by kernel_rfl, by kernel_rfl⟩
theorem ts97 : TSize Try.prog 97 11 := fun _ => by kernel_rfl
theorem fo97_0 : FOff Try.prog 97 0 0 := fun _ _ => by kernel_rfl
theorem fo97_1 : FOff Try.prog 97 1 1 := fun _ _ => by kernel_rfl
theorem fo97_2 : FOff Try.prog 97 2 2 := fun _ _ => by kernel_rfl
theorem fo97_3 : FOff Try.prog 97 3 3 := fun _ _ => by kernel_rfl
theorem fo97_4 : FOff Try.prog 97 4 4 := fun _ _ => by kernel_rfl
theorem fo97_5 : FOff Try.prog 97 5 5 := fun _ _ => by kernel_rfl
theorem fo97_6 : FOff Try.prog 97 6 6 := fun _ _ => by kernel_rfl
theorem fo97_7 : FOff Try.prog 97 7 7 := fun _ _ => by kernel_rfl
theorem fo97_8 : FOff Try.prog 97 8 8 := fun _ _ => by kernel_rfl
theorem fo97_9 : FOff Try.prog 97 9 9 := fun _ _ => by kernel_rfl
theorem fo97_10 : FOff Try.prog 97 10 10 := fun _ _ => by kernel_rfl
theorem ta98 : TAgg Try.prog 98 11 := fun _ => ⟨by kernel_rfl, by kernel_rfl⟩
theorem ts98 : TSize Try.prog 98 11 := fun _ => by kernel_rfl
theorem fo98_0 : FOff Try.prog 98 0 0 := fun _ _ => by kernel_rfl
theorem fo98_1 : FOff Try.prog 98 1 1 := fun _ _ => by kernel_rfl
theorem fo98_2 : FOff Try.prog 98 2 2 := fun _ _ => by kernel_rfl
theorem fo98_3 : FOff Try.prog 98 3 3 := fun _ _ => by kernel_rfl
theorem fo98_4 : FOff Try.prog 98 4 4 := fun _ _ => by kernel_rfl
theorem fo98_5 : FOff Try.prog 98 5 5 := fun _ _ => by kernel_rfl
theorem fo98_6 : FOff Try.prog 98 6 6 := fun _ _ => by kernel_rfl
theorem fo98_7 : FOff Try.prog 98 7 7 := fun _ _ => by kernel_rfl
theorem fo98_8 : FOff Try.prog 98 8 8 := fun _ _ => by kernel_rfl
theorem fo98_9 : FOff Try.prog 98 9 9 := fun _ _ => by kernel_rfl
theorem fo98_10 : FOff Try.prog 98 10 10 := fun _ _ => by kernel_rfl
theorem cf2 : CF Try.prog 2 := fun _ _ => by kernel_rfl
theorem cf3 : CF Try.prog 3 := fun _ _ => by kernel_rfl
theorem cf4 : CF Try.prog 4 := fun _ _ => by kernel_rfl
theorem cf5 : CF Try.prog 5 := fun _ _ => by kernel_rfl
theorem cf6 : CF Try.prog 6 := fun _ _ => by kernel_rfl
theorem cf7 : CF Try.prog 7 := fun _ _ => by kernel_rfl
theorem cf8 : CF Try.prog 8 := fun _ _ => by kernel_rfl
theorem cf9 : CF Try.prog 9 := fun _ _ => by kernel_rfl
theorem cf10 : CF Try.prog 10 := fun _ _ => by kernel_rfl
theorem cf11 : CF Try.prog 11 := fun _ _ => by kernel_rfl
theorem cf12 : CF Try.prog 12 := fun _ _ => by kernel_rfl
theorem cf13 : CF Try.prog 13 := fun _ _ => by kernel_rfl
theorem cf14 : CF Try.prog 14 := fun _ _ => by kernel_rfl
theorem cf15 : CF Try.prog 15 := fun _ _ => by kernel_rfl
theorem cf16 : CF Try.prog 16 := fun _ _ => by kernel_rfl
theorem cf17 : CF Try.prog 17 := fun _ _ => by kernel_rfl
theorem cf18 : CF Try.prog 18 := fun _ _ => by kernel_rfl
theorem cf19 : CF Try.prog 19 := fun _ _ => by kernel_rfl
theorem cf20 : CF Try.prog 20 := fun _ _ => by kernel_rfl
theorem cf21 : CF Try.prog 21 := fun _ _ => by kernel_rfl
theorem cf22 : CF Try.prog 22 := fun _ _ => by kernel_rfl
theorem cf23 : CF Try.prog 23 := fun _ _ => by kernel_rfl
theorem cf24 : CF Try.prog 24 := fun _ _ => by kernel_rfl
theorem cf25 : CF Try.prog 25 := fun _ _ => by kernel_rfl
theorem cf26 : CF Try.prog 26 := fun _ _ => by kernel_rfl
theorem cf27 : CF Try.prog 27 := fun _ _ => by kernel_rfl
theorem cf28 : CF Try.prog 28 := fun _ _ => by kernel_rfl
theorem cf29 : CF Try.prog 29 := fun _ _ => by kernel_rfl
theorem cf30 : CF Try.prog 30 := fun _ _ => by kernel_rfl
theorem cf31 : CF Try.prog 31 := fun _ _ => by kernel_rfl
theorem cf32 : CF Try.prog 32 := fun _ _ => by kernel_rfl
theorem cf33 : CF Try.prog 33 := fun _ _ => by kernel_rfl
theorem cf34 : CF Try.prog 34 := fun _ _ => by kernel_rfl
theorem cf35 : CF Try.prog 35 := fun _ _ => by kernel_rfl
theorem cf36 : CF Try.prog 36 := fun _ _ => by kernel_rfl
theorem cf37 : CF Try.prog 37 := fun _ _ => by kernel_rfl
theorem cf38 : CF Try.prog 38 := fun _ _ => by kernel_rfl
theorem cf39 : CF Try.prog 39 := fun _ _ => by kernel_rfl
theorem cf40 : CF Try.prog 40 := fun _ _ => by kernel_rfl
theorem cf41 : CF Try.prog 41 := fun _ _ => by kernel_rfl
theorem cf42 : CF Try.prog 42 := fun _ _ => by kernel_rfl
theorem cf43 : CF Try.prog 43 := fun _ _ => by kernel_rfl
theorem cf44 : CF Try.prog 44 := fun _ _ => by kernel_rfl
theorem cf45 : CF Try.prog 45 := fun _ _ => by kernel_rfl
theorem cf46 : CF Try.prog 46 := fun _ _ => by kernel_rfl
theorem cf47 : CF Try.prog 47 := fun _ _ => by kernel_rfl
theorem cf48 : CF Try.prog 48 := fun _ _ => by kernel_rfl
end Go.Proofs.Ytehmjkdgakinbaa
