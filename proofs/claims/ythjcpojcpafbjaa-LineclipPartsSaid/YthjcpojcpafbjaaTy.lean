/-
  Closed facts on the types and functions of the program at hand, for the walks.
-/
import Derived.Test.YthjcpojcpafbjaaNest
import Derived.Test.YthjcpojcpafbjaaFl
import Derived.Test.YthjcpojcpafbjaaProg
import Derived.Laws.StructEq
import Derived.WalkKit
namespace Go.Proofs.Ythjcpojcpafbjaa
open Go.RowKit
theorem g_mixed : Try.prog.follows .mixedOrders = true := by kernel_rfl
theorem to1 : TOne Try.prog 1 := fun _ => by kernel_rfl
theorem ts1 : TSize Try.prog 1 1 := fun _ => by kernel_rfl
theorem to2 : TOne Try.prog 2 := fun _ => by kernel_rfl
theorem ts2 : TSize Try.prog 2 1 := fun _ => by kernel_rfl
def E2 : En (Int) := (En.int .i64)
abbrev R2 : Rep (Int) := Rep.fl E2
theorem tn2 : Try.prog.underlying 2 = some (.int .i64) := by kernel_rfl
theorem to3 : TOne Try.prog 3 := fun _ => by kernel_rfl
theorem ts3 : TSize Try.prog 3 1 := fun _ => by kernel_rfl
def E3 : En (Int) := (En.int .i64)
abbrev R3 : Rep (Int) := Rep.fl E3
theorem tn3 : Try.prog.underlying 3 = some (.int .i64) := by kernel_rfl
theorem to4 : TOne Try.prog 4 := fun _ => by kernel_rfl
theorem ts4 : TSize Try.prog 4 1 := fun _ => by kernel_rfl
def E4 : En (Bool) := En.bool
abbrev R4 : Rep (Bool) := Rep.fl E4
theorem tb4 : Try.prog.underlying 4 = some .bool := by kernel_rfl
theorem to5 : TOne Try.prog 5 := fun _ => by kernel_rfl
theorem ts5 : TSize Try.prog 5 1 := fun _ => by kernel_rfl
def E5 : En (Int) := (En.int .u8)
abbrev R5 : Rep (Int) := Rep.fl E5
theorem tn5 : Try.prog.underlying 5 = some (.int .u8) := by kernel_rfl
theorem to6 : TOne Try.prog 6 := fun _ => by kernel_rfl
theorem ts6 : TSize Try.prog 6 1 := fun _ => by kernel_rfl
def E6 : En (Int) := (En.int .u8)
abbrev R6 : Rep (Int) := Rep.fl E6
theorem tn6 : Try.prog.underlying 6 = some (.int .u8) := by kernel_rfl
theorem ta7 : TAgg Try.prog 7 4 := fun _ => ⟨by kernel_rfl, by kernel_rfl⟩
theorem ts7 : TSize Try.prog 7 4 := fun _ => by kernel_rfl
def E7 : En (Int × Int × Bool × Int) := (En.pr (En.int .i64) (En.pr (En.int .i64) (En.pr En.bool (En.int .u8))))
abbrev R7 : Rep (Int × Int × Bool × Int) := Rep.fl E7
theorem fo7_0 : FOff Try.prog 7 0 0 := fun _ _ => by kernel_rfl
theorem fo7_1 : FOff Try.prog 7 1 1 := fun _ _ => by kernel_rfl
theorem fo7_2 : FOff Try.prog 7 2 2 := fun _ _ => by kernel_rfl
theorem fo7_3 : FOff Try.prog 7 3 3 := fun _ _ => by kernel_rfl
theorem ta8 : TAgg Try.prog 8 4 := fun _ => ⟨by kernel_rfl, by kernel_rfl⟩
theorem ts8 : TSize Try.prog 8 4 := fun _ => by kernel_rfl
def E8 : En (Int × Int × Bool × Int) := (En.pr (En.int .i64) (En.pr (En.int .i64) (En.pr En.bool (En.int .u8))))
abbrev R8 : Rep (Int × Int × Bool × Int) := Rep.fl E8
theorem fo8_0 : FOff Try.prog 8 0 0 := fun _ _ => by kernel_rfl
theorem fo8_1 : FOff Try.prog 8 1 1 := fun _ _ => by kernel_rfl
theorem fo8_2 : FOff Try.prog 8 2 2 := fun _ _ => by kernel_rfl
theorem fo8_3 : FOff Try.prog 8 3 3 := fun _ _ => by kernel_rfl
theorem to9 : TOne Try.prog 9 := fun _ => by kernel_rfl
theorem ts9 : TSize Try.prog 9 1 := fun _ => by kernel_rfl
def E9 : En (ByteArray) := En.str
abbrev R9 : Rep (ByteArray) := Rep.fl E9
theorem to10 : TOne Try.prog 10 := fun _ => by kernel_rfl
theorem ts10 : TSize Try.prog 10 1 := fun _ => by kernel_rfl
def E10 : En (ByteArray) := En.str
abbrev R10 : Rep (ByteArray) := Rep.fl E10
theorem to11 : TOne Try.prog 11 := fun _ => by kernel_rfl
theorem ts11 : TSize Try.prog 11 1 := fun _ => by kernel_rfl
def E11 : En (ByteArray) := En.str
abbrev R11 : Rep (ByteArray) := Rep.fl E11
theorem to12 : TOne Try.prog 12 := fun _ => by kernel_rfl
theorem ts12 : TSize Try.prog 12 1 := fun _ => by kernel_rfl
def E12 : En (Int) := (En.int .u64)
abbrev R12 : Rep (Int) := Rep.fl E12
theorem tn12 : Try.prog.underlying 12 = some (.int .u64) := by kernel_rfl
theorem ta13 : TAgg Try.prog 13 2 := fun _ => ⟨by kernel_rfl, by kernel_rfl⟩
theorem ts13 : TSize Try.prog 13 2 := fun _ => by kernel_rfl
def E13 : En (ByteArray × Int) := (En.pr En.str (En.int .u64))
abbrev R13 : Rep (ByteArray × Int) := Rep.fl E13
theorem fo13_0 : FOff Try.prog 13 0 0 := fun _ _ => by kernel_rfl
theorem fo13_1 : FOff Try.prog 13 1 1 := fun _ _ => by kernel_rfl
theorem ta14 : TAgg Try.prog 14 2 := fun _ => ⟨by kernel_rfl, by kernel_rfl⟩
theorem ts14 : TSize Try.prog 14 2 := fun _ => by kernel_rfl
def E14 : En (ByteArray × Int) := (En.pr En.str (En.int .u64))
abbrev R14 : Rep (ByteArray × Int) := Rep.fl E14
theorem fo14_0 : FOff Try.prog 14 0 0 := fun _ _ => by kernel_rfl
theorem fo14_1 : FOff Try.prog 14 1 1 := fun _ _ => by kernel_rfl
theorem to15 : TOne Try.prog 15 := fun _ => by kernel_rfl
theorem ts15 : TSize Try.prog 15 1 := fun _ => by kernel_rfl
theorem to16 : TOne Try.prog 16 := fun _ => by kernel_rfl
theorem ts16 : TSize Try.prog 16 1 := fun _ => by kernel_rfl
theorem to17 : TOne Try.prog 17 := fun _ => by kernel_rfl
theorem ts17 : TSize Try.prog 17 1 := fun _ => by kernel_rfl
theorem ta18 : TAgg Try.prog 18 1 := fun _ => ⟨by kernel_rfl, by kernel_rfl⟩
theorem ts18 : TSize Try.prog 18 1 := fun _ => by kernel_rfl
theorem fo18_0 : FOff Try.prog 18 0 0 := fun _ _ => by kernel_rfl
theorem ta19 : TAgg Try.prog 19 1 := fun _ => ⟨by kernel_rfl, by kernel_rfl⟩
theorem ts19 : TSize Try.prog 19 1 := fun _ => by kernel_rfl
theorem fo19_0 : FOff Try.prog 19 0 0 := fun _ _ => by kernel_rfl
theorem to21 : TOne Try.prog 21 := fun _ => by kernel_rfl
theorem ts21 : TSize Try.prog 21 1 := fun _ => by kernel_rfl
def E21 : En (Int) := (En.int .i32)
abbrev R21 : Rep (Int) := Rep.fl E21
theorem tn21 : Try.prog.underlying 21 = some (.int .i32) := by kernel_rfl
theorem to22 : TOne Try.prog 22 := fun _ => by kernel_rfl
theorem ts22 : TSize Try.prog 22 1 := fun _ => by kernel_rfl
def E34 : En (Int × Int) := (En.pr (En.int .i64) (En.int .i64))
abbrev R34 : Rep (Int × Int) := Rep.fl E34
abbrev R24 : Rep (List (Int × Int)) := Rep.sl R34
abbrev X24 : Ex R24 (Option Addr × Nat) := Ex.sl R34
abbrev R22 : Rep (List (List (Int × Int))) := Rep.sl R24
abbrev X22 : Ex R22 (Option Addr × Nat) := Ex.sl R24
theorem tl22 : TSlice Try.prog 22 1 := ⟨24, by kernel_rfl, fun _ => by kernel_rfl⟩
theorem tu22 : Try.prog.underlying 22 = some (.slice 24) := by kernel_rfl
theorem tp22 : TApp Try.prog 22 24 1 24 := tapp_of (z := .slice none 0 0) (by kernel_rfl) (by kernel_rfl) (by kernel_rfl) (by decide)
theorem to23 : TOne Try.prog 23 := fun _ => by kernel_rfl
theorem ts23 : TSize Try.prog 23 1 := fun _ => by kernel_rfl
def E37 : En (Int × Int) := (En.pr (En.int .i64) (En.int .i64))
abbrev R37 : Rep (Int × Int) := Rep.fl E37
abbrev R26 : Rep (List (Int × Int)) := Rep.sl R37
abbrev X26 : Ex R26 (Option Addr × Nat) := Ex.sl R37
abbrev R23 : Rep (List (List (Int × Int))) := Rep.sl R26
abbrev X23 : Ex R23 (Option Addr × Nat) := Ex.sl R26
theorem tl23 : TSlice Try.prog 23 1 := ⟨26, by kernel_rfl, fun _ => by kernel_rfl⟩
theorem tu23 : Try.prog.underlying 23 = some (.slice 26) := by kernel_rfl
theorem tp23 : TApp Try.prog 23 26 1 24 := tapp_of (z := .slice none 0 0) (by kernel_rfl) (by kernel_rfl) (by kernel_rfl) (by decide)
theorem to24 : TOne Try.prog 24 := fun _ => by kernel_rfl
theorem ts24 : TSize Try.prog 24 1 := fun _ => by kernel_rfl
theorem tl24 : TSlice Try.prog 24 2 := ⟨34, by kernel_rfl, fun _ => by kernel_rfl⟩
theorem tu24 : Try.prog.underlying 24 = some (.slice 34) := by kernel_rfl
theorem tp24 : TApp Try.prog 24 34 2 16 := tapp_of (z := .agg #[.int .i64 0, .int .i64 0]) (by kernel_rfl) (by kernel_rfl) (by kernel_rfl) (by decide)
theorem to25 : TOne Try.prog 25 := fun _ => by kernel_rfl
theorem ts25 : TSize Try.prog 25 1 := fun _ => by kernel_rfl
theorem to26 : TOne Try.prog 26 := fun _ => by kernel_rfl
theorem ts26 : TSize Try.prog 26 1 := fun _ => by kernel_rfl
theorem tl26 : TSlice Try.prog 26 2 := ⟨37, by kernel_rfl, fun _ => by kernel_rfl⟩
theorem tu26 : Try.prog.underlying 26 = some (.slice 37) := by kernel_rfl
theorem tp26 : TApp Try.prog 26 37 2 16 := tapp_of (z := .agg #[.int .i64 0, .int .i64 0]) (by kernel_rfl) (by kernel_rfl) (by kernel_rfl) (by decide)
theorem to27 : TOne Try.prog 27 := fun _ => by kernel_rfl
theorem ts27 : TSize Try.prog 27 1 := fun _ => by kernel_rfl
theorem to28 : TOne Try.prog 28 := fun _ => by kernel_rfl
theorem ts28 : TSize Try.prog 28 1 := fun _ => by kernel_rfl
theorem to29 : TOne Try.prog 29 := fun _ => by kernel_rfl
theorem ts29 : TSize Try.prog 29 1 := fun _ => by kernel_rfl
theorem to30 : TOne Try.prog 30 := fun _ => by kernel_rfl
theorem ts30 : TSize Try.prog 30 1 := fun _ => by kernel_rfl
theorem to31 : TOne Try.prog 31 := fun _ => by kernel_rfl
theorem ts31 : TSize Try.prog 31 1 := fun _ => by kernel_rfl
theorem to32 : TOne Try.prog 32 := fun _ => by kernel_rfl
theorem ts32 : TSize Try.prog 32 1 := fun _ => by kernel_rfl
theorem ta33 : TAgg Try.prog 33 2 := fun _ => ⟨by kernel_rfl, by kernel_rfl⟩
theorem ts33 : TSize Try.prog 33 2 := fun _ => by kernel_rfl
def E33 : En (Int × Int) := (En.pr (En.int .i64) (En.int .i64))
abbrev R33 : Rep (Int × Int) := Rep.fl E33
theorem fo33_0 : FOff Try.prog 33 0 0 := fun _ _ => by kernel_rfl
theorem fo33_1 : FOff Try.prog 33 1 1 := fun _ _ => by kernel_rfl
theorem se33 (x0 x1 y0 y1 : Int) (w : World) : (binOp .eql 33 (.agg #[.int .i64 x0, .int .i64 x1]) (.agg #[.int .i64 y0, .int .i64 y1])).run Try.prog w = .ok (.bool (decide ((x0, x1) = (y0, y1)))) w := by
  go_simp
  by_cases h0 : x0 = y0 <;> by_cases h1 : x1 = y1 <;> simp [h0, h1]
theorem sn33 (x0 x1 y0 y1 : Int) (w : World) : (binOp .neq 33 (.agg #[.int .i64 x0, .int .i64 x1]) (.agg #[.int .i64 y0, .int .i64 y1])).run Try.prog w = .ok (.bool (!decide ((x0, x1) = (y0, y1)))) w := by
  go_simp
  by_cases h0 : x0 = y0 <;> by_cases h1 : x1 = y1 <;> simp [h0, h1]
theorem sg33 : TGuard Try.prog 33 := fun op x y xs ys w => run_eqGuard_agg w op 33 x y xs ys (by kernel_rfl)
theorem ta34 : TAgg Try.prog 34 2 := fun _ => ⟨by kernel_rfl, by kernel_rfl⟩
theorem ts34 : TSize Try.prog 34 2 := fun _ => by kernel_rfl
theorem fo34_0 : FOff Try.prog 34 0 0 := fun _ _ => by kernel_rfl
theorem fo34_1 : FOff Try.prog 34 1 1 := fun _ _ => by kernel_rfl
theorem se34 (x0 x1 y0 y1 : Int) (w : World) : (binOp .eql 34 (.agg #[.int .i64 x0, .int .i64 x1]) (.agg #[.int .i64 y0, .int .i64 y1])).run Try.prog w = .ok (.bool (decide ((x0, x1) = (y0, y1)))) w := by
  go_simp
  by_cases h0 : x0 = y0 <;> by_cases h1 : x1 = y1 <;> simp [h0, h1]
theorem sn34 (x0 x1 y0 y1 : Int) (w : World) : (binOp .neq 34 (.agg #[.int .i64 x0, .int .i64 x1]) (.agg #[.int .i64 y0, .int .i64 y1])).run Try.prog w = .ok (.bool (!decide ((x0, x1) = (y0, y1)))) w := by
  go_simp
  by_cases h0 : x0 = y0 <;> by_cases h1 : x1 = y1 <;> simp [h0, h1]
theorem sg34 : TGuard Try.prog 34 := fun op x y xs ys w => run_eqGuard_agg w op 34 x y xs ys (by kernel_rfl)
theorem ta35 : TAgg Try.prog 35 4 := fun _ => ⟨by kernel_rfl, by kernel_rfl⟩
theorem ts35 : TSize Try.prog 35 4 := fun _ => by kernel_rfl
def E35 : En ((Int × Int) × (Int × Int)) := (En.pr (En.pr (En.int .i64) (En.int .i64)) (En.pr (En.int .i64) (En.int .i64)))
abbrev R35 : Rep ((Int × Int) × (Int × Int)) := Rep.fl E35
theorem fo35_0 : FOff Try.prog 35 0 0 := fun _ _ => by kernel_rfl
theorem fo35_1 : FOff Try.prog 35 1 2 := fun _ _ => by kernel_rfl
theorem se35 (x0 x1 x2 x3 y0 y1 y2 y3 : Int) (w : World) : (binOp .eql 35 (.agg #[.int .i64 x0, .int .i64 x1, .int .i64 x2, .int .i64 x3]) (.agg #[.int .i64 y0, .int .i64 y1, .int .i64 y2, .int .i64 y3])).run Try.prog w = .ok (.bool (decide (((x0, x1), (x2, x3)) = ((y0, y1), (y2, y3))))) w := by
  go_simp
  by_cases h0 : x0 = y0 <;> by_cases h1 : x1 = y1 <;> by_cases h2 : x2 = y2 <;> by_cases h3 : x3 = y3 <;> simp [h0, h1, h2, h3]
theorem sn35 (x0 x1 x2 x3 y0 y1 y2 y3 : Int) (w : World) : (binOp .neq 35 (.agg #[.int .i64 x0, .int .i64 x1, .int .i64 x2, .int .i64 x3]) (.agg #[.int .i64 y0, .int .i64 y1, .int .i64 y2, .int .i64 y3])).run Try.prog w = .ok (.bool (!decide (((x0, x1), (x2, x3)) = ((y0, y1), (y2, y3))))) w := by
  go_simp
  by_cases h0 : x0 = y0 <;> by_cases h1 : x1 = y1 <;> by_cases h2 : x2 = y2 <;> by_cases h3 : x3 = y3 <;> simp [h0, h1, h2, h3]
theorem sg35 : TGuard Try.prog 35 := fun op x y xs ys w => run_eqGuard_agg w op 35 x y xs ys (by kernel_rfl)
theorem ta36 : TAgg Try.prog 36 4 := fun _ => ⟨by kernel_rfl, by kernel_rfl⟩
theorem ts36 : TSize Try.prog 36 4 := fun _ => by kernel_rfl
def E36 : En ((Int × Int) × (Int × Int)) := (En.pr (En.pr (En.int .i64) (En.int .i64)) (En.pr (En.int .i64) (En.int .i64)))
abbrev R36 : Rep ((Int × Int) × (Int × Int)) := Rep.fl E36
theorem fo36_0 : FOff Try.prog 36 0 0 := fun _ _ => by kernel_rfl
theorem fo36_1 : FOff Try.prog 36 1 2 := fun _ _ => by kernel_rfl
theorem se36 (x0 x1 x2 x3 y0 y1 y2 y3 : Int) (w : World) : (binOp .eql 36 (.agg #[.int .i64 x0, .int .i64 x1, .int .i64 x2, .int .i64 x3]) (.agg #[.int .i64 y0, .int .i64 y1, .int .i64 y2, .int .i64 y3])).run Try.prog w = .ok (.bool (decide (((x0, x1), (x2, x3)) = ((y0, y1), (y2, y3))))) w := by
  go_simp
  by_cases h0 : x0 = y0 <;> by_cases h1 : x1 = y1 <;> by_cases h2 : x2 = y2 <;> by_cases h3 : x3 = y3 <;> simp [h0, h1, h2, h3]
theorem sn36 (x0 x1 x2 x3 y0 y1 y2 y3 : Int) (w : World) : (binOp .neq 36 (.agg #[.int .i64 x0, .int .i64 x1, .int .i64 x2, .int .i64 x3]) (.agg #[.int .i64 y0, .int .i64 y1, .int .i64 y2, .int .i64 y3])).run Try.prog w = .ok (.bool (!decide (((x0, x1), (x2, x3)) = ((y0, y1), (y2, y3))))) w := by
  go_simp
  by_cases h0 : x0 = y0 <;> by_cases h1 : x1 = y1 <;> by_cases h2 : x2 = y2 <;> by_cases h3 : x3 = y3 <;> simp [h0, h1, h2, h3]
theorem sg36 : TGuard Try.prog 36 := fun op x y xs ys w => run_eqGuard_agg w op 36 x y xs ys (by kernel_rfl)
theorem ta37 : TAgg Try.prog 37 2 := fun _ => ⟨by kernel_rfl, by kernel_rfl⟩
theorem ts37 : TSize Try.prog 37 2 := fun _ => by kernel_rfl
theorem fo37_0 : FOff Try.prog 37 0 0 := fun _ _ => by kernel_rfl
theorem fo37_1 : FOff Try.prog 37 1 1 := fun _ _ => by kernel_rfl
theorem se37 (x0 x1 y0 y1 : Int) (w : World) : (binOp .eql 37 (.agg #[.int .i64 x0, .int .i64 x1]) (.agg #[.int .i64 y0, .int .i64 y1])).run Try.prog w = .ok (.bool (decide ((x0, x1) = (y0, y1)))) w := by
  go_simp
  by_cases h0 : x0 = y0 <;> by_cases h1 : x1 = y1 <;> simp [h0, h1]
theorem sn37 (x0 x1 y0 y1 : Int) (w : World) : (binOp .neq 37 (.agg #[.int .i64 x0, .int .i64 x1]) (.agg #[.int .i64 y0, .int .i64 y1])).run Try.prog w = .ok (.bool (!decide ((x0, x1) = (y0, y1)))) w := by
  go_simp
  by_cases h0 : x0 = y0 <;> by_cases h1 : x1 = y1 <;> simp [h0, h1]
theorem sg37 : TGuard Try.prog 37 := fun op x y xs ys w => run_eqGuard_agg w op 37 x y xs ys (by kernel_rfl)
theorem ta38 : TAgg Try.prog 38 4 := fun _ => ⟨by kernel_rfl, by kernel_rfl⟩
theorem ts38 : TSize Try.prog 38 4 := fun _ => by kernel_rfl
def E38 : En ((Int × Int) × (Int × Int)) := (En.pr (En.pr (En.int .i64) (En.int .i64)) (En.pr (En.int .i64) (En.int .i64)))
abbrev R38 : Rep ((Int × Int) × (Int × Int)) := Rep.fl E38
theorem fo38_0 : FOff Try.prog 38 0 0 := fun _ _ => by kernel_rfl
theorem fo38_1 : FOff Try.prog 38 1 2 := fun _ _ => by kernel_rfl
theorem se38 (x0 x1 x2 x3 y0 y1 y2 y3 : Int) (w : World) : (binOp .eql 38 (.agg #[.int .i64 x0, .int .i64 x1, .int .i64 x2, .int .i64 x3]) (.agg #[.int .i64 y0, .int .i64 y1, .int .i64 y2, .int .i64 y3])).run Try.prog w = .ok (.bool (decide (((x0, x1), (x2, x3)) = ((y0, y1), (y2, y3))))) w := by
  go_simp
  by_cases h0 : x0 = y0 <;> by_cases h1 : x1 = y1 <;> by_cases h2 : x2 = y2 <;> by_cases h3 : x3 = y3 <;> simp [h0, h1, h2, h3]
theorem sn38 (x0 x1 x2 x3 y0 y1 y2 y3 : Int) (w : World) : (binOp .neq 38 (.agg #[.int .i64 x0, .int .i64 x1, .int .i64 x2, .int .i64 x3]) (.agg #[.int .i64 y0, .int .i64 y1, .int .i64 y2, .int .i64 y3])).run Try.prog w = .ok (.bool (!decide (((x0, x1), (x2, x3)) = ((y0, y1), (y2, y3))))) w := by
  go_simp
  by_cases h0 : x0 = y0 <;> by_cases h1 : x1 = y1 <;> by_cases h2 : x2 = y2 <;> by_cases h3 : x3 = y3 <;> simp [h0, h1, h2, h3]
theorem sg38 : TGuard Try.prog 38 := fun op x y xs ys w => run_eqGuard_agg w op 38 x y xs ys (by kernel_rfl)
theorem ta39 : TAgg Try.prog 39 4 := fun _ => ⟨by kernel_rfl, by kernel_rfl⟩
theorem ts39 : TSize Try.prog 39 4 := fun _ => by kernel_rfl
def E39 : En ((Int × Int) × (Int × Int)) := (En.pr (En.pr (En.int .i64) (En.int .i64)) (En.pr (En.int .i64) (En.int .i64)))
abbrev R39 : Rep ((Int × Int) × (Int × Int)) := Rep.fl E39
theorem fo39_0 : FOff Try.prog 39 0 0 := fun _ _ => by kernel_rfl
theorem fo39_1 : FOff Try.prog 39 1 2 := fun _ _ => by kernel_rfl
theorem se39 (x0 x1 x2 x3 y0 y1 y2 y3 : Int) (w : World) : (binOp .eql 39 (.agg #[.int .i64 x0, .int .i64 x1, .int .i64 x2, .int .i64 x3]) (.agg #[.int .i64 y0, .int .i64 y1, .int .i64 y2, .int .i64 y3])).run Try.prog w = .ok (.bool (decide (((x0, x1), (x2, x3)) = ((y0, y1), (y2, y3))))) w := by
  go_simp
  by_cases h0 : x0 = y0 <;> by_cases h1 : x1 = y1 <;> by_cases h2 : x2 = y2 <;> by_cases h3 : x3 = y3 <;> simp [h0, h1, h2, h3]
theorem sn39 (x0 x1 x2 x3 y0 y1 y2 y3 : Int) (w : World) : (binOp .neq 39 (.agg #[.int .i64 x0, .int .i64 x1, .int .i64 x2, .int .i64 x3]) (.agg #[.int .i64 y0, .int .i64 y1, .int .i64 y2, .int .i64 y3])).run Try.prog w = .ok (.bool (!decide (((x0, x1), (x2, x3)) = ((y0, y1), (y2, y3))))) w := by
  go_simp
  by_cases h0 : x0 = y0 <;> by_cases h1 : x1 = y1 <;> by_cases h2 : x2 = y2 <;> by_cases h3 : x3 = y3 <;> simp [h0, h1, h2, h3]
theorem sg39 : TGuard Try.prog 39 := fun op x y xs ys w => run_eqGuard_agg w op 39 x y xs ys (by kernel_rfl)
theorem to40 : TOne Try.prog 40 := fun _ => by kernel_rfl
theorem ts40 : TSize Try.prog 40 1 := fun _ => by kernel_rfl
theorem to41 : TOne Try.prog 41 := fun _ => by kernel_rfl
theorem ts41 : TSize Try.prog 41 1 := fun _ => by kernel_rfl
theorem to42 : TOne Try.prog 42 := fun _ => by kernel_rfl
theorem ts42 : TSize Try.prog 42 1 := fun _ => by kernel_rfl
theorem to43 : TOne Try.prog 43 := fun _ => by kernel_rfl
theorem ts43 : TSize Try.prog 43 1 := fun _ => by kernel_rfl
theorem to44 : TOne Try.prog 44 := fun _ => by kernel_rfl
theorem ts44 : TSize Try.prog 44 1 := fun _ => by kernel_rfl
theorem to45 : TOne Try.prog 45 := fun _ => by kernel_rfl
theorem ts45 : TSize Try.prog 45 1 := fun _ => by kernel_rfl
theorem to46 : TOne Try.prog 46 := fun _ => by kernel_rfl
theorem ts46 : TSize Try.prog 46 1 := fun _ => by kernel_rfl
theorem to47 : TOne Try.prog 47 := fun _ => by kernel_rfl
theorem ts47 : TSize Try.prog 47 1 := fun _ => by kernel_rfl
theorem to48 : TOne Try.prog 48 := fun _ => by kernel_rfl
theorem ts48 : TSize Try.prog 48 1 := fun _ => by kernel_rfl
theorem to49 : TOne Try.prog 49 := fun _ => by kernel_rfl
theorem ts49 : TSize Try.prog 49 1 := fun _ => by kernel_rfl
theorem to51 : TOne Try.prog 51 := fun _ => by kernel_rfl
theorem ts51 : TSize Try.prog 51 1 := fun _ => by kernel_rfl
theorem to52 : TOne Try.prog 52 := fun _ => by kernel_rfl
theorem ts52 : TSize Try.prog 52 1 := fun _ => by kernel_rfl
theorem to53 : TOne Try.prog 53 := fun _ => by kernel_rfl
theorem ts53 : TSize Try.prog 53 1 := fun _ => by kernel_rfl
theorem to54 : TOne Try.prog 54 := fun _ => by kernel_rfl
theorem ts54 : TSize Try.prog 54 1 := fun _ => by kernel_rfl
theorem to55 : TOne Try.prog 55 := fun _ => by kernel_rfl
theorem ts55 : TSize Try.prog 55 1 := fun _ => by kernel_rfl
theorem to56 : TOne Try.prog 56 := fun _ => by kernel_rfl
theorem ts56 : TSize Try.prog 56 1 := fun _ => by kernel_rfl
theorem to57 : TOne Try.prog 57 := fun _ => by kernel_rfl
theorem ts57 : TSize Try.prog 57 1 := fun _ => by kernel_rfl
theorem to58 : TOne Try.prog 58 := fun _ => by kernel_rfl
theorem ts58 : TSize Try.prog 58 1 := fun _ => by kernel_rfl
theorem to59 : TOne Try.prog 59 := fun _ => by kernel_rfl
theorem ts59 : TSize Try.prog 59 1 := fun _ => by kernel_rfl
theorem to60 : TOne Try.prog 60 := fun _ => by kernel_rfl
theorem ts60 : TSize Try.prog 60 1 := fun _ => by kernel_rfl
theorem to61 : TOne Try.prog 61 := fun _ => by kernel_rfl
theorem ts61 : TSize Try.prog 61 1 := fun _ => by kernel_rfl
theorem to62 : TOne Try.prog 62 := fun _ => by kernel_rfl
theorem ts62 : TSize Try.prog 62 1 := fun _ => by kernel_rfl
theorem to63 : TOne Try.prog 63 := fun _ => by kernel_rfl
theorem ts63 : TSize Try.prog 63 1 := fun _ => by kernel_rfl
theorem ta64 : TAgg Try.prog 64 2 := fun _ => ⟨by kernel_rfl, by kernel_rfl⟩
theorem ts64 : TSize Try.prog 64 2 := fun _ => by kernel_rfl
def E64 : En (Int × Int) := (En.pr (En.int .i64) (En.int .i64))
abbrev R64 : Rep (Int × Int) := Rep.fl E64
theorem fo64_0 : FOff Try.prog 64 0 0 := fun _ _ => by kernel_rfl
theorem fo64_1 : FOff Try.prog 64 1 1 := fun _ _ => by kernel_rfl
theorem se64 (x0 x1 y0 y1 : Int) (w : World) : (binOp .eql 64 (.agg #[.int .i64 x0, .int .i64 x1]) (.agg #[.int .i64 y0, .int .i64 y1])).run Try.prog w = .ok (.bool (decide ((x0, x1) = (y0, y1)))) w := by
  go_simp
  by_cases h0 : x0 = y0 <;> by_cases h1 : x1 = y1 <;> simp [h0, h1]
theorem sn64 (x0 x1 y0 y1 : Int) (w : World) : (binOp .neq 64 (.agg #[.int .i64 x0, .int .i64 x1]) (.agg #[.int .i64 y0, .int .i64 y1])).run Try.prog w = .ok (.bool (!decide ((x0, x1) = (y0, y1)))) w := by
  go_simp
  by_cases h0 : x0 = y0 <;> by_cases h1 : x1 = y1 <;> simp [h0, h1]
theorem sg64 : TGuard Try.prog 64 := fun op x y xs ys w => run_eqGuard_agg w op 64 x y xs ys (by kernel_rfl)
theorem ta65 : TAgg Try.prog 65 2 := fun _ => ⟨by kernel_rfl, by kernel_rfl⟩
theorem ts65 : TSize Try.prog 65 2 := fun _ => by kernel_rfl
def E65 : En (Int × Int) := (En.pr (En.int .i64) (En.int .i64))
abbrev R65 : Rep (Int × Int) := Rep.fl E65
theorem fo65_0 : FOff Try.prog 65 0 0 := fun _ _ => by kernel_rfl
theorem fo65_1 : FOff Try.prog 65 1 1 := fun _ _ => by kernel_rfl
theorem se65 (x0 x1 y0 y1 : Int) (w : World) : (binOp .eql 65 (.agg #[.int .i64 x0, .int .i64 x1]) (.agg #[.int .i64 y0, .int .i64 y1])).run Try.prog w = .ok (.bool (decide ((x0, x1) = (y0, y1)))) w := by
  go_simp
  by_cases h0 : x0 = y0 <;> by_cases h1 : x1 = y1 <;> simp [h0, h1]
theorem sn65 (x0 x1 y0 y1 : Int) (w : World) : (binOp .neq 65 (.agg #[.int .i64 x0, .int .i64 x1]) (.agg #[.int .i64 y0, .int .i64 y1])).run Try.prog w = .ok (.bool (!decide ((x0, x1) = (y0, y1)))) w := by
  go_simp
  by_cases h0 : x0 = y0 <;> by_cases h1 : x1 = y1 <;> simp [h0, h1]
theorem sg65 : TGuard Try.prog 65 := fun op x y xs ys w => run_eqGuard_agg w op 65 x y xs ys (by kernel_rfl)
theorem ta66 : TAgg Try.prog 66 2 := fun _ => ⟨by kernel_rfl, by kernel_rfl⟩
theorem ts66 : TSize Try.prog 66 2 := fun _ => by kernel_rfl
def E66 : En (Int × Int) := (En.pr (En.int .i64) (En.int .i64))
abbrev R66 : Rep (Int × Int) := Rep.fl E66
theorem tr66 : Try.prog.underlying 66 = some (.array 2 3) := by kernel_rfl
theorem ta67 : TAgg Try.prog 67 8 := fun _ => ⟨by kernel_rfl, by kernel_rfl⟩
theorem ts67 : TSize Try.prog 67 8 := fun _ => by kernel_rfl
def E67 : En ((Int × Int) × (Int × Int) × (Int × Int) × (Int × Int)) := (En.pr (En.pr (En.int .i64) (En.int .i64)) (En.pr (En.pr (En.int .i64) (En.int .i64)) (En.pr (En.pr (En.int .i64) (En.int .i64)) (En.pr (En.int .i64) (En.int .i64)))))
abbrev R67 : Rep ((Int × Int) × (Int × Int) × (Int × Int) × (Int × Int)) := Rep.fl E67
theorem tr67 : Try.prog.underlying 67 = some (.array 4 66) := by kernel_rfl
theorem to68 : TOne Try.prog 68 := fun _ => by kernel_rfl
theorem ts68 : TSize Try.prog 68 1 := fun _ => by kernel_rfl
theorem to69 : TOne Try.prog 69 := fun _ => by kernel_rfl
theorem ts69 : TSize Try.prog 69 1 := fun _ => by kernel_rfl
abbrev R69 : Rep (List Int) := Rep.sl R3
abbrev X69 : Ex R69 (Option Addr × Nat) := Ex.sl R3
theorem tl69 : TSlice Try.prog 69 1 := ⟨3, by kernel_rfl, fun _ => by kernel_rfl⟩
theorem tu69 : Try.prog.underlying 69 = some (.slice 3) := by kernel_rfl
theorem tp69 : TApp Try.prog 69 3 1 8 := tapp_of (z := .int .i64 0) (by kernel_rfl) (by kernel_rfl) (by kernel_rfl) (by decide)
theorem to70 : TOne Try.prog 70 := fun _ => by kernel_rfl
theorem ts70 : TSize Try.prog 70 1 := fun _ => by kernel_rfl
theorem to71 : TOne Try.prog 71 := fun _ => by kernel_rfl
theorem ts71 : TSize Try.prog 71 1 := fun _ => by kernel_rfl
theorem to72 : TOne Try.prog 72 := fun _ => by kernel_rfl
theorem ts72 : TSize Try.prog 72 1 := fun _ => by kernel_rfl
theorem to73 : TOne Try.prog 73 := fun _ => by kernel_rfl
theorem ts73 : TSize Try.prog 73 1 := fun _ => by kernel_rfl
theorem to74 : TOne Try.prog 74 := fun _ => by kernel_rfl
theorem ts74 : TSize Try.prog 74 1 := fun _ => by kernel_rfl
theorem ta75 : TAgg Try.prog 75 4 := fun _ => ⟨by kernel_rfl, by kernel_rfl⟩
theorem ts75 : TSize Try.prog 75 4 := fun _ => by kernel_rfl
theorem fo75_0 : FOff Try.prog 75 0 0 := fun _ _ => by kernel_rfl
theorem fo75_1 : FOff Try.prog 75 1 1 := fun _ _ => by kernel_rfl
theorem fo75_2 : FOff Try.prog 75 2 2 := fun _ _ => by kernel_rfl
theorem fo75_3 : FOff Try.prog 75 3 3 := fun _ _ => by kernel_rfl
theorem ta76 : TAgg Try.prog 76 4 := fun _ => ⟨by kernel_rfl, by kernel_rfl⟩
theorem ts76 : TSize Try.prog 76 4 := fun _ => by kernel_rfl
theorem fo76_0 : FOff Try.prog 76 0 0 := fun _ _ => by kernel_rfl
theorem fo76_1 : FOff Try.prog 76 1 1 := fun _ _ => by kernel_rfl
theorem fo76_2 : FOff Try.prog 76 2 2 := fun _ _ => by kernel_rfl
theorem fo76_3 : FOff Try.prog 76 3 3 := fun _ _ => by kernel_rfl
theorem ta77 : TAgg Try.prog 77 0 := fun _ => ⟨by kernel_rfl, by kernel_rfl⟩
theorem ts77 : TSize Try.prog 77 0 := fun _ => by kernel_rfl
theorem tr77 : Try.prog.underlying 77 = some (.array 0 16) := by kernel_rfl
theorem ta78 : TAgg Try.prog 78 0 := fun _ => ⟨by kernel_rfl, by kernel_rfl⟩
theorem ts78 : TSize Try.prog 78 0 := fun _ => by kernel_rfl
theorem ta79 : TAgg Try.prog 79 0 := fun _ => ⟨by kernel_rfl, by kernel_rfl⟩
theorem ts79 : TSize Try.prog 79 0 := fun _ => by kernel_rfl
theorem to80 : TOne Try.prog 80 := fun _ => by kernel_rfl
theorem ts80 : TSize Try.prog 80 1 := fun _ => by kernel_rfl
theorem to81 : TOne Try.prog 81 := fun _ => by kernel_rfl
theorem ts81 : TSize Try.prog 81 1 := fun _ => by kernel_rfl
def E81 : En (Int) := (En.int .u32)
abbrev R81 : Rep (Int) := Rep.fl E81
theorem tn81 : Try.prog.underlying 81 = some (.int .u32) := by kernel_rfl
theorem to82 : TOne Try.prog 82 := fun _ => by kernel_rfl
theorem ts82 : TSize Try.prog 82 1 := fun _ => by kernel_rfl
def E82 : En (Int) := (En.int .u8)
abbrev R82 : Rep (Int) := Rep.fl E82
theorem tn82 : Try.prog.underlying 82 = some (.int .u8) := by kernel_rfl
theorem to83 : TOne Try.prog 83 := fun _ => by kernel_rfl
theorem ts83 : TSize Try.prog 83 1 := fun _ => by kernel_rfl
def E83 : En (Int) := (En.int .u8)
abbrev R83 : Rep (Int) := Rep.fl E83
theorem tn83 : Try.prog.underlying 83 = some (.int .u8) := by kernel_rfl
theorem to84 : TOne Try.prog 84 := fun _ => by kernel_rfl
theorem ts84 : TSize Try.prog 84 1 := fun _ => by kernel_rfl
theorem to85 : TOne Try.prog 85 := fun _ => by kernel_rfl
theorem ts85 : TSize Try.prog 85 1 := fun _ => by kernel_rfl
theorem to86 : TOne Try.prog 86 := fun _ => by kernel_rfl
theorem ts86 : TSize Try.prog 86 1 := fun _ => by kernel_rfl
def E86 : En (Int) := (En.int .i32)
abbrev R86 : Rep (Int) := Rep.fl E86
theorem tn86 : Try.prog.underlying 86 = some (.int .i32) := by kernel_rfl
theorem to87 : TOne Try.prog 87 := fun _ => by kernel_rfl
theorem ts87 : TSize Try.prog 87 1 := fun _ => by kernel_rfl
def E87 : En (Int) := (En.int .i32)
abbrev R87 : Rep (Int) := Rep.fl E87
theorem tn87 : Try.prog.underlying 87 = some (.int .i32) := by kernel_rfl
theorem ta88 : TAgg Try.prog 88 11 := fun _ => ⟨by kernel_rfl, by kernel_rfl⟩
theorem ts88 : TSize Try.prog 88 11 := fun _ => by kernel_rfl
theorem fo88_0 : FOff Try.prog 88 0 0 := fun _ _ => by kernel_rfl
theorem fo88_1 : FOff Try.prog 88 1 1 := fun _ _ => by kernel_rfl
theorem fo88_2 : FOff Try.prog 88 2 2 := fun _ _ => by kernel_rfl
theorem fo88_3 : FOff Try.prog 88 3 3 := fun _ _ => by kernel_rfl
theorem fo88_4 : FOff Try.prog 88 4 4 := fun _ _ => by kernel_rfl
theorem fo88_5 : FOff Try.prog 88 5 5 := fun _ _ => by kernel_rfl
theorem fo88_6 : FOff Try.prog 88 6 6 := fun _ _ => by kernel_rfl
theorem fo88_7 : FOff Try.prog 88 7 7 := fun _ _ => by kernel_rfl
theorem fo88_8 : FOff Try.prog 88 8 8 := fun _ _ => by kernel_rfl
theorem fo88_9 : FOff Try.prog 88 9 9 := fun _ _ => by kernel_rfl
theorem fo88_10 : FOff Try.prog 88 10 10 := fun _ _ => by kernel_rfl
theorem ta89 : TAgg Try.prog 89 11 := fun _ => ⟨by kernel_rfl, by kernel_rfl⟩
theorem ts89 : TSize Try.prog 89 11 := fun _ => by kernel_rfl
theorem fo89_0 : FOff Try.prog 89 0 0 := fun _ _ => by kernel_rfl
theorem fo89_1 : FOff Try.prog 89 1 1 := fun _ _ => by kernel_rfl
theorem fo89_2 : FOff Try.prog 89 2 2 := fun _ _ => by kernel_rfl
theorem fo89_3 : FOff Try.prog 89 3 3 := fun _ _ => by kernel_rfl
theorem fo89_4 : FOff Try.prog 89 4 4 := fun _ _ => by kernel_rfl
theorem fo89_5 : FOff Try.prog 89 5 5 := fun _ _ => by kernel_rfl
theorem fo89_6 : FOff Try.prog 89 6 6 := fun _ _ => by kernel_rfl
theorem fo89_7 : FOff Try.prog 89 7 7 := fun _ _ => by kernel_rfl
theorem fo89_8 : FOff Try.prog 89 8 8 := fun _ _ => by kernel_rfl
theorem fo89_9 : FOff Try.prog 89 9 9 := fun _ _ => by kernel_rfl
theorem fo89_10 : FOff Try.prog 89 10 10 := fun _ _ => by kernel_rfl
theorem cf2 : CF Try.prog 2 := fun _ _ => by kernel_rfl
theorem cf3 : CF Try.prog 3 := fun _ _ => by kernel_rfl
theorem cf4 : CF Try.prog 4 := fun _ _ => by kernel_rfl
theorem cf5 : CF Try.prog 5 := fun _ _ => by kernel_rfl
theorem cf6 : CF Try.prog 6 := fun _ _ => by kernel_rfl
theorem cf7 : CF Try.prog 7 := fun _ _ => by kernel_rfl
theorem cf8 : CF Try.prog 8 := fun _ _ => by kernel_rfl
theorem cf9 : CF Try.prog 9 := fun _ _ => by kernel_rfl
theorem cf10 : CF Try.prog 10 := fun _ _ => by kernel_rfl
theorem cf11 : CF Try.prog 11 := fun _ _ => by kernel_rfl
theorem cf12 : CF Try.prog 12 := fun _ _ => by kernel_rfl
theorem cf13 : CF Try.prog 13 := fun _ _ => by kernel_rfl
theorem cf14 : CF Try.prog 14 := fun _ _ => by kernel_rfl
theorem cf15 : CF Try.prog 15 := fun _ _ => by kernel_rfl
theorem cf16 : CF Try.prog 16 := fun _ _ => by kernel_rfl
theorem cf17 : CF Try.prog 17 := fun _ _ => by kernel_rfl
theorem cf18 : CF Try.prog 18 := fun _ _ => by kernel_rfl
theorem cf19 : CF Try.prog 19 := fun _ _ => by kernel_rfl
theorem cf20 : CF Try.prog 20 := fun _ _ => by kernel_rfl
theorem cf21 : CF Try.prog 21 := fun _ _ => by kernel_rfl
theorem cf22 : CF Try.prog 22 := fun _ _ => by kernel_rfl
theorem cf23 : CF Try.prog 23 := fun _ _ => by kernel_rfl
theorem cf24 : CF Try.prog 24 := fun _ _ => by kernel_rfl
theorem cf25 : CF Try.prog 25 := fun _ _ => by kernel_rfl
theorem cf26 : CF Try.prog 26 := fun _ _ => by kernel_rfl
theorem cf27 : CF Try.prog 27 := fun _ _ => by kernel_rfl
theorem cf28 : CF Try.prog 28 := fun _ _ => by kernel_rfl
theorem cf29 : CF Try.prog 29 := fun _ _ => by kernel_rfl
theorem cf30 : CF Try.prog 30 := fun _ _ => by kernel_rfl
theorem cf31 : CF Try.prog 31 := fun _ _ => by kernel_rfl
theorem cf32 : CF Try.prog 32 := fun _ _ => by kernel_rfl
theorem cf33 : CF Try.prog 33 := fun _ _ => by kernel_rfl
theorem cf34 : CF Try.prog 34 := fun _ _ => by kernel_rfl
theorem cf35 : CF Try.prog 35 := fun _ _ => by kernel_rfl
theorem cf36 : CF Try.prog 36 := fun _ _ => by kernel_rfl
theorem cf37 : CF Try.prog 37 := fun _ _ => by kernel_rfl
theorem cf38 : CF Try.prog 38 := fun _ _ => by kernel_rfl
theorem cf39 : CF Try.prog 39 := fun _ _ => by kernel_rfl
theorem cf40 : CF Try.prog 40 := fun _ _ => by kernel_rfl
theorem cf41 : CF Try.prog 41 := fun _ _ => by kernel_rfl
theorem cf42 : CF Try.prog 42 := fun _ _ => by kernel_rfl
theorem cf43 : CF Try.prog 43 := fun _ _ => by kernel_rfl
theorem cf44 : CF Try.prog 44 := fun _ _ => by kernel_rfl
end Go.Proofs.Ythjcpojcpafbjaa
