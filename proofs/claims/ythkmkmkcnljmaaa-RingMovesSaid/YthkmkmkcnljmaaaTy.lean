/-
  Closed facts on the types and functions of the program at hand, for the walks.
-/
import Derived.Test.YthkmkmkcnljmaaaNest
import Derived.Test.YthkmkmkcnljmaaaMap
import Derived.Test.YthkmkmkcnljmaaaFl
import Derived.Test.YthkmkmkcnljmaaaProg
import Derived.Laws.StructEq
import Derived.WalkKit
namespace Go.Proofs.Ythkmkmkcnljmaaa
open Go.RowKit
theorem g_mixed : Try.prog.follows .mixedOrders = true := by kernel_rfl
theorem to1 : TOne Try.prog 1 := fun _ => by kernel_rfl
theorem ts1 : TSize Try.prog 1 1 := fun _ => by kernel_rfl
theorem to2 : TOne Try.prog 2 := fun _ => by kernel_rfl
theorem ts2 : TSize Try.prog 2 1 := fun _ => by kernel_rfl
def E2 : En (Int) := (En.int .i64)
abbrev R2 : Rep (Int) := Rep.fl E2
theorem tn2 : Try.prog.underlying 2 = some (.int .i64) := by kernel_rfl
theorem to3 : TOne Try.prog 3 := fun _ => by kernel_rfl
theorem ts3 : TSize Try.prog 3 1 := fun _ => by kernel_rfl
def E3 : En (Int) := (En.int .i64)
abbrev R3 : Rep (Int) := Rep.fl E3
theorem tn3 : Try.prog.underlying 3 = some (.int .i64) := by kernel_rfl
theorem to4 : TOne Try.prog 4 := fun _ => by kernel_rfl
theorem ts4 : TSize Try.prog 4 1 := fun _ => by kernel_rfl
def E4 : En (Bool) := En.bool
abbrev R4 : Rep (Bool) := Rep.fl E4
theorem tb4 : Try.prog.underlying 4 = some .bool := by kernel_rfl
theorem to5 : TOne Try.prog 5 := fun _ => by kernel_rfl
theorem ts5 : TSize Try.prog 5 1 := fun _ => by kernel_rfl
def E5 : En (Int) := (En.int .u8)
abbrev R5 : Rep (Int) := Rep.fl E5
theorem tn5 : Try.prog.underlying 5 = some (.int .u8) := by kernel_rfl
theorem to6 : TOne Try.prog 6 := fun _ => by kernel_rfl
theorem ts6 : TSize Try.prog 6 1 := fun _ => by kernel_rfl
def E6 : En (Int) := (En.int .u8)
abbrev R6 : Rep (Int) := Rep.fl E6
theorem tn6 : Try.prog.underlying 6 = some (.int .u8) := by kernel_rfl
theorem ta7 : TAgg Try.prog 7 4 := fun _ => ⟨by kernel_rfl, by kernel_rfl⟩
theorem ts7 : TSize Try.prog 7 4 := fun _ => by kernel_rfl
def E7 : En (Int × Int × Bool × Int) := (En.pr (En.int .i64) (En.pr (En.int .i64) (En.pr En.bool (En.int .u8))))
abbrev R7 : Rep (Int × Int × Bool × Int) := Rep.fl E7
theorem fo7_0 : FOff Try.prog 7 0 0 := fun _ _ => by kernel_rfl
theorem fo7_1 : FOff Try.prog 7 1 1 := fun _ _ => by kernel_rfl
theorem fo7_2 : FOff Try.prog 7 2 2 := fun _ _ => by kernel_rfl
theorem fo7_3 : FOff Try.prog 7 3 3 := fun _ _ => by kernel_rfl
theorem ta8 : TAgg Try.prog 8 4 := fun _ => ⟨by kernel_rfl, by kernel_rfl⟩
theorem ts8 : TSize Try.prog 8 4 := fun _ => by kernel_rfl
def E8 : En (Int × Int × Bool × Int) := (En.pr (En.int .i64) (En.pr (En.int .i64) (En.pr En.bool (En.int .u8))))
abbrev R8 : Rep (Int × Int × Bool × Int) := Rep.fl E8
theorem fo8_0 : FOff Try.prog 8 0 0 := fun _ _ => by kernel_rfl
theorem fo8_1 : FOff Try.prog 8 1 1 := fun _ _ => by kernel_rfl
theorem fo8_2 : FOff Try.prog 8 2 2 := fun _ _ => by kernel_rfl
theorem fo8_3 : FOff Try.prog 8 3 3 := fun _ _ => by kernel_rfl
theorem to9 : TOne Try.prog 9 := fun _ => by kernel_rfl
theorem ts9 : TSize Try.prog 9 1 := fun _ => by kernel_rfl
def E9 : En (ByteArray) := En.str
abbrev R9 : Rep (ByteArray) := Rep.fl E9
theorem to10 : TOne Try.prog 10 := fun _ => by kernel_rfl
theorem ts10 : TSize Try.prog 10 1 := fun _ => by kernel_rfl
def E10 : En (ByteArray) := En.str
abbrev R10 : Rep (ByteArray) := Rep.fl E10
theorem to11 : TOne Try.prog 11 := fun _ => by kernel_rfl
theorem ts11 : TSize Try.prog 11 1 := fun _ => by kernel_rfl
def E11 : En (ByteArray) := En.str
abbrev R11 : Rep (ByteArray) := Rep.fl E11
theorem to12 : TOne Try.prog 12 := fun _ => by kernel_rfl
theorem ts12 : TSize Try.prog 12 1 := fun _ => by kernel_rfl
def E12 : En (Int) := (En.int .u64)
abbrev R12 : Rep (Int) := Rep.fl E12
theorem tn12 : Try.prog.underlying 12 = some (.int .u64) := by kernel_rfl
theorem ta13 : TAgg Try.prog 13 2 := fun _ => ⟨by kernel_rfl, by kernel_rfl⟩
theorem ts13 : TSize Try.prog 13 2 := fun _ => by kernel_rfl
def E13 : En (ByteArray × Int) := (En.pr En.str (En.int .u64))
abbrev R13 : Rep (ByteArray × Int) := Rep.fl E13
theorem fo13_0 : FOff Try.prog 13 0 0 := fun _ _ => by kernel_rfl
theorem fo13_1 : FOff Try.prog 13 1 1 := fun _ _ => by kernel_rfl
theorem ta14 : TAgg Try.prog 14 2 := fun _ => ⟨by kernel_rfl, by kernel_rfl⟩
theorem ts14 : TSize Try.prog 14 2 := fun _ => by kernel_rfl
def E14 : En (ByteArray × Int) := (En.pr En.str (En.int .u64))
abbrev R14 : Rep (ByteArray × Int) := Rep.fl E14
theorem fo14_0 : FOff Try.prog 14 0 0 := fun _ _ => by kernel_rfl
theorem fo14_1 : FOff Try.prog 14 1 1 := fun _ _ => by kernel_rfl
theorem to15 : TOne Try.prog 15 := fun _ => by kernel_rfl
theorem ts15 : TSize Try.prog 15 1 := fun _ => by kernel_rfl
theorem to16 : TOne Try.prog 16 := fun _ => by kernel_rfl
theorem ts16 : TSize Try.prog 16 1 := fun _ => by kernel_rfl
theorem to17 : TOne Try.prog 17 := fun _ => by kernel_rfl
theorem ts17 : TSize Try.prog 17 1 := fun _ => by kernel_rfl
theorem ta18 : TAgg Try.prog 18 1 := fun _ => ⟨by kernel_rfl, by kernel_rfl⟩
theorem ts18 : TSize Try.prog 18 1 := fun _ => by kernel_rfl
theorem fo18_0 : FOff Try.prog 18 0 0 := fun _ _ => by kernel_rfl
theorem ta19 : TAgg Try.prog 19 1 := fun _ => ⟨by kernel_rfl, by kernel_rfl⟩
theorem ts19 : TSize Try.prog 19 1 := fun _ => by kernel_rfl
theorem fo19_0 : FOff Try.prog 19 0 0 := fun _ _ => by kernel_rfl
theorem to21 : TOne Try.prog 21 := fun _ => by kernel_rfl
theorem ts21 : TSize Try.prog 21 1 := fun _ => by kernel_rfl
def E21 : En (Int) := (En.int .i32)
abbrev R21 : Rep (Int) := Rep.fl E21
theorem tn21 : Try.prog.underlying 21 = some (.int .i32) := by kernel_rfl
theorem to22 : TOne Try.prog 22 := fun _ => by kernel_rfl
theorem ts22 : TSize Try.prog 22 1 := fun _ => by kernel_rfl
def E32 : En (Int × Int) := (En.pr (En.int .i64) (En.int .i64))
abbrev R32 : Rep (Int × Int) := Rep.fl E32
abbrev R22 : Rep (List (Int × Int)) := Rep.sl R32
abbrev X22 : Ex R22 (Option Addr × Nat) := Ex.sl R32
theorem tl22 : TSlice Try.prog 22 2 := ⟨32, by kernel_rfl, fun _ => by kernel_rfl⟩
theorem tu22 : Try.prog.underlying 22 = some (.slice 32) := by kernel_rfl
theorem tp22 : TApp Try.prog 22 32 2 16 := tapp_of (z := .agg #[.int .i64 0, .int .i64 0]) (by kernel_rfl) (by kernel_rfl) (by kernel_rfl) (by decide)
theorem to23 : TOne Try.prog 23 := fun _ => by kernel_rfl
theorem ts23 : TSize Try.prog 23 1 := fun _ => by kernel_rfl
theorem to24 : TOne Try.prog 24 := fun _ => by kernel_rfl
theorem ts24 : TSize Try.prog 24 1 := fun _ => by kernel_rfl
def E49 : En (Int × Int) := (En.pr (En.int .i64) (En.int .i64))
abbrev R49 : Rep (Int × Int) := Rep.fl E49
abbrev R24 : Rep (List (Int × Int)) := Rep.sl R49
abbrev X24 : Ex R24 (Option Addr × Nat) := Ex.sl R49
theorem tl24 : TSlice Try.prog 24 2 := ⟨49, by kernel_rfl, fun _ => by kernel_rfl⟩
theorem tu24 : Try.prog.underlying 24 = some (.slice 49) := by kernel_rfl
theorem tp24 : TApp Try.prog 24 49 2 16 := tapp_of (z := .agg #[.int .i64 0, .int .i64 0]) (by kernel_rfl) (by kernel_rfl) (by kernel_rfl) (by decide)
theorem to25 : TOne Try.prog 25 := fun _ => by kernel_rfl
theorem ts25 : TSize Try.prog 25 1 := fun _ => by kernel_rfl
theorem to26 : TOne Try.prog 26 := fun _ => by kernel_rfl
theorem ts26 : TSize Try.prog 26 1 := fun _ => by kernel_rfl
theorem to27 : TOne Try.prog 27 := fun _ => by kernel_rfl
theorem ts27 : TSize Try.prog 27 1 := fun _ => by kernel_rfl
theorem to28 : TOne Try.prog 28 := fun _ => by kernel_rfl
theorem ts28 : TSize Try.prog 28 1 := fun _ => by kernel_rfl
theorem to29 : TOne Try.prog 29 := fun _ => by kernel_rfl
theorem ts29 : TSize Try.prog 29 1 := fun _ => by kernel_rfl
theorem to30 : TOne Try.prog 30 := fun _ => by kernel_rfl
theorem ts30 : TSize Try.prog 30 1 := fun _ => by kernel_rfl
theorem ta31 : TAgg Try.prog 31 2 := fun _ => ⟨by kernel_rfl, by kernel_rfl⟩
theorem ts31 : TSize Try.prog 31 2 := fun _ => by kernel_rfl
def E31 : En (Int × Int) := (En.pr (En.int .i64) (En.int .i64))
abbrev R31 : Rep (Int × Int) := Rep.fl E31
theorem fo31_0 : FOff Try.prog 31 0 0 := fun _ _ => by kernel_rfl
theorem fo31_1 : FOff Try.prog 31 1 1 := fun _ _ => by kernel_rfl
theorem se31 (x0 x1 y0 y1 : Int) (w : World) : (binOp .eql 31 (.agg #[.int .i64 x0, .int .i64 x1]) (.agg #[.int .i64 y0, .int .i64 y1])).run Try.prog w = .ok (.bool (decide ((x0, x1) = (y0, y1)))) w := by
  go_simp
  by_cases h0 : x0 = y0 <;> by_cases h1 : x1 = y1 <;> simp [h0, h1]
theorem sn31 (x0 x1 y0 y1 : Int) (w : World) : (binOp .neq 31 (.agg #[.int .i64 x0, .int .i64 x1]) (.agg #[.int .i64 y0, .int .i64 y1])).run Try.prog w = .ok (.bool (!decide ((x0, x1) = (y0, y1)))) w := by
  go_simp
  by_cases h0 : x0 = y0 <;> by_cases h1 : x1 = y1 <;> simp [h0, h1]
theorem sg31 : TGuard Try.prog 31 := fun op x y xs ys w => run_eqGuard_agg w op 31 x y xs ys (by kernel_rfl)
theorem ta32 : TAgg Try.prog 32 2 := fun _ => ⟨by kernel_rfl, by kernel_rfl⟩
theorem ts32 : TSize Try.prog 32 2 := fun _ => by kernel_rfl
theorem fo32_0 : FOff Try.prog 32 0 0 := fun _ _ => by kernel_rfl
theorem fo32_1 : FOff Try.prog 32 1 1 := fun _ _ => by kernel_rfl
theorem se32 (x0 x1 y0 y1 : Int) (w : World) : (binOp .eql 32 (.agg #[.int .i64 x0, .int .i64 x1]) (.agg #[.int .i64 y0, .int .i64 y1])).run Try.prog w = .ok (.bool (decide ((x0, x1) = (y0, y1)))) w := by
  go_simp
  by_cases h0 : x0 = y0 <;> by_cases h1 : x1 = y1 <;> simp [h0, h1]
theorem sn32 (x0 x1 y0 y1 : Int) (w : World) : (binOp .neq 32 (.agg #[.int .i64 x0, .int .i64 x1]) (.agg #[.int .i64 y0, .int .i64 y1])).run Try.prog w = .ok (.bool (!decide ((x0, x1) = (y0, y1)))) w := by
  go_simp
  by_cases h0 : x0 = y0 <;> by_cases h1 : x1 = y1 <;> simp [h0, h1]
theorem sg32 : TGuard Try.prog 32 := fun op x y xs ys w => run_eqGuard_agg w op 32 x y xs ys (by kernel_rfl)
theorem to34 : TOne Try.prog 34 := fun _ => by kernel_rfl
theorem ts34 : TSize Try.prog 34 1 := fun _ => by kernel_rfl
theorem to35 : TOne Try.prog 35 := fun _ => by kernel_rfl
theorem ts35 : TSize Try.prog 35 1 := fun _ => by kernel_rfl
theorem to36 : TOne Try.prog 36 := fun _ => by kernel_rfl
theorem ts36 : TSize Try.prog 36 1 := fun _ => by kernel_rfl
theorem to37 : TOne Try.prog 37 := fun _ => by kernel_rfl
theorem ts37 : TSize Try.prog 37 1 := fun _ => by kernel_rfl
def E37 : En (Int) := (En.int .u64)
abbrev R37 : Rep (Int) := Rep.fl E37
theorem tn37 : Try.prog.underlying 37 = some (.int .u64) := by kernel_rfl
theorem to38 : TOne Try.prog 38 := fun _ => by kernel_rfl
theorem ts38 : TSize Try.prog 38 1 := fun _ => by kernel_rfl
theorem to39 : TOne Try.prog 39 := fun _ => by kernel_rfl
theorem ts39 : TSize Try.prog 39 1 := fun _ => by kernel_rfl
theorem to40 : TOne Try.prog 40 := fun _ => by kernel_rfl
theorem ts40 : TSize Try.prog 40 1 := fun _ => by kernel_rfl
theorem to41 : TOne Try.prog 41 := fun _ => by kernel_rfl
theorem ts41 : TSize Try.prog 41 1 := fun _ => by kernel_rfl
theorem to42 : TOne Try.prog 42 := fun _ => by kernel_rfl
theorem ts42 : TSize Try.prog 42 1 := fun _ => by kernel_rfl
theorem to43 : TOne Try.prog 43 := fun _ => by kernel_rfl
theorem ts43 : TSize Try.prog 43 1 := fun _ => by kernel_rfl
theorem to44 : TOne Try.prog 44 := fun _ => by kernel_rfl
theorem ts44 : TSize Try.prog 44 1 := fun _ => by kernel_rfl
theorem to45 : TOne Try.prog 45 := fun _ => by kernel_rfl
theorem ts45 : TSize Try.prog 45 1 := fun _ => by kernel_rfl
theorem to46 : TOne Try.prog 46 := fun _ => by kernel_rfl
theorem ts46 : TSize Try.prog 46 1 := fun _ => by kernel_rfl
theorem to47 : TOne Try.prog 47 := fun _ => by kernel_rfl
theorem ts47 : TSize Try.prog 47 1 := fun _ => by kernel_rfl
theorem to48 : TOne Try.prog 48 := fun _ => by kernel_rfl
theorem ts48 : TSize Try.prog 48 1 := fun _ => by kernel_rfl
theorem ta49 : TAgg Try.prog 49 2 := fun _ => ⟨by kernel_rfl, by kernel_rfl⟩
theorem ts49 : TSize Try.prog 49 2 := fun _ => by kernel_rfl
theorem fo49_0 : FOff Try.prog 49 0 0 := fun _ _ => by kernel_rfl
theorem fo49_1 : FOff Try.prog 49 1 1 := fun _ _ => by kernel_rfl
theorem se49 (x0 x1 y0 y1 : Int) (w : World) : (binOp .eql 49 (.agg #[.int .i64 x0, .int .i64 x1]) (.agg #[.int .i64 y0, .int .i64 y1])).run Try.prog w = .ok (.bool (decide ((x0, x1) = (y0, y1)))) w := by
  go_simp
  by_cases h0 : x0 = y0 <;> by_cases h1 : x1 = y1 <;> simp [h0, h1]
theorem sn49 (x0 x1 y0 y1 : Int) (w : World) : (binOp .neq 49 (.agg #[.int .i64 x0, .int .i64 x1]) (.agg #[.int .i64 y0, .int .i64 y1])).run Try.prog w = .ok (.bool (!decide ((x0, x1) = (y0, y1)))) w := by
  go_simp
  by_cases h0 : x0 = y0 <;> by_cases h1 : x1 = y1 <;> simp [h0, h1]
theorem sg49 : TGuard Try.prog 49 := fun op x y xs ys w => run_eqGuard_agg w op 49 x y xs ys (by kernel_rfl)
theorem to50 : TOne Try.prog 50 := fun _ => by kernel_rfl
theorem ts50 : TSize Try.prog 50 1 := fun _ => by kernel_rfl
theorem to51 : TOne Try.prog 51 := fun _ => by kernel_rfl
theorem ts51 : TSize Try.prog 51 1 := fun _ => by kernel_rfl
theorem to52 : TOne Try.prog 52 := fun _ => by kernel_rfl
theorem ts52 : TSize Try.prog 52 1 := fun _ => by kernel_rfl
theorem to53 : TOne Try.prog 53 := fun _ => by kernel_rfl
theorem ts53 : TSize Try.prog 53 1 := fun _ => by kernel_rfl
theorem to54 : TOne Try.prog 54 := fun _ => by kernel_rfl
theorem ts54 : TSize Try.prog 54 1 := fun _ => by kernel_rfl
theorem to55 : TOne Try.prog 55 := fun _ => by kernel_rfl
theorem ts55 : TSize Try.prog 55 1 := fun _ => by kernel_rfl
theorem to56 : TOne Try.prog 56 := fun _ => by kernel_rfl
theorem ts56 : TSize Try.prog 56 1 := fun _ => by kernel_rfl
theorem to57 : TOne Try.prog 57 := fun _ => by kernel_rfl
theorem ts57 : TSize Try.prog 57 1 := fun _ => by kernel_rfl
theorem to58 : TOne Try.prog 58 := fun _ => by kernel_rfl
theorem ts58 : TSize Try.prog 58 1 := fun _ => by kernel_rfl
def E58 : En (Int) := (En.int .i64)
abbrev R58 : Rep (Int) := Rep.fl E58
theorem tn58 : Try.prog.underlying 58 = some (.int .i64) := by kernel_rfl
theorem to60 : TOne Try.prog 60 := fun _ => by kernel_rfl
theorem ts60 : TSize Try.prog 60 1 := fun _ => by kernel_rfl
theorem to61 : TOne Try.prog 61 := fun _ => by kernel_rfl
theorem ts61 : TSize Try.prog 61 1 := fun _ => by kernel_rfl
theorem to62 : TOne Try.prog 62 := fun _ => by kernel_rfl
theorem ts62 : TSize Try.prog 62 1 := fun _ => by kernel_rfl
theorem ta63 : TAgg Try.prog 63 4 := fun _ => ⟨by kernel_rfl, by kernel_rfl⟩
theorem ts63 : TSize Try.prog 63 4 := fun _ => by kernel_rfl
def E63 : En ((Int × Int) × (Int × Int)) := (En.pr (En.pr (En.int .i64) (En.int .i64)) (En.pr (En.int .i64) (En.int .i64)))
abbrev R63 : Rep ((Int × Int) × (Int × Int)) := Rep.fl E63
theorem fo63_0 : FOff Try.prog 63 0 0 := fun _ _ => by kernel_rfl
theorem fo63_1 : FOff Try.prog 63 1 2 := fun _ _ => by kernel_rfl
theorem se63 (x0 x1 x2 x3 y0 y1 y2 y3 : Int) (w : World) : (binOp .eql 63 (.agg #[.int .i64 x0, .int .i64 x1, .int .i64 x2, .int .i64 x3]) (.agg #[.int .i64 y0, .int .i64 y1, .int .i64 y2, .int .i64 y3])).run Try.prog w = .ok (.bool (decide (((x0, x1), (x2, x3)) = ((y0, y1), (y2, y3))))) w := by
  go_simp
  by_cases h0 : x0 = y0 <;> by_cases h1 : x1 = y1 <;> by_cases h2 : x2 = y2 <;> by_cases h3 : x3 = y3 <;> simp [h0, h1, h2, h3]
theorem sn63 (x0 x1 x2 x3 y0 y1 y2 y3 : Int) (w : World) : (binOp .neq 63 (.agg #[.int .i64 x0, .int .i64 x1, .int .i64 x2, .int .i64 x3]) (.agg #[.int .i64 y0, .int .i64 y1, .int .i64 y2, .int .i64 y3])).run Try.prog w = .ok (.bool (!decide (((x0, x1), (x2, x3)) = ((y0, y1), (y2, y3))))) w := by
  go_simp
  by_cases h0 : x0 = y0 <;> by_cases h1 : x1 = y1 <;> by_cases h2 : x2 = y2 <;> by_cases h3 : x3 = y3 <;> simp [h0, h1, h2, h3]
theorem sg63 : TGuard Try.prog 63 := fun op x y xs ys w => run_eqGuard_agg w op 63 x y xs ys (by kernel_rfl)
theorem ta64 : TAgg Try.prog 64 4 := fun _ => ⟨by kernel_rfl, by kernel_rfl⟩
theorem ts64 : TSize Try.prog 64 4 := fun _ => by kernel_rfl
def E64 : En ((Int × Int) × (Int × Int)) := (En.pr (En.pr (En.int .i64) (En.int .i64)) (En.pr (En.int .i64) (En.int .i64)))
abbrev R64 : Rep ((Int × Int) × (Int × Int)) := Rep.fl E64
theorem fo64_0 : FOff Try.prog 64 0 0 := fun _ _ => by kernel_rfl
theorem fo64_1 : FOff Try.prog 64 1 2 := fun _ _ => by kernel_rfl
theorem se64 (x0 x1 x2 x3 y0 y1 y2 y3 : Int) (w : World) : (binOp .eql 64 (.agg #[.int .i64 x0, .int .i64 x1, .int .i64 x2, .int .i64 x3]) (.agg #[.int .i64 y0, .int .i64 y1, .int .i64 y2, .int .i64 y3])).run Try.prog w = .ok (.bool (decide (((x0, x1), (x2, x3)) = ((y0, y1), (y2, y3))))) w := by
  go_simp
  by_cases h0 : x0 = y0 <;> by_cases h1 : x1 = y1 <;> by_cases h2 : x2 = y2 <;> by_cases h3 : x3 = y3 <;> simp [h0, h1, h2, h3]
theorem sn64 (x0 x1 x2 x3 y0 y1 y2 y3 : Int) (w : World) : (binOp .neq 64 (.agg #[.int .i64 x0, .int .i64 x1, .int .i64 x2, .int .i64 x3]) (.agg #[.int .i64 y0, .int .i64 y1, .int .i64 y2, .int .i64 y3])).run Try.prog w = .ok (.bool (!decide (((x0, x1), (x2, x3)) = ((y0, y1), (y2, y3))))) w := by
  go_simp
  by_cases h0 : x0 = y0 <;> by_cases h1 : x1 = y1 <;> by_cases h2 : x2 = y2 <;> by_cases h3 : x3 = y3 <;> simp [h0, h1, h2, h3]
theorem sg64 : TGuard Try.prog 64 := fun op x y xs ys w => run_eqGuard_agg w op 64 x y xs ys (by kernel_rfl)
theorem to65 : TOne Try.prog 65 := fun _ => by kernel_rfl
theorem ts65 : TSize Try.prog 65 1 := fun _ => by kernel_rfl
theorem to66 : TOne Try.prog 66 := fun _ => by kernel_rfl
theorem ts66 : TSize Try.prog 66 1 := fun _ => by kernel_rfl
theorem to67 : TOne Try.prog 67 := fun _ => by kernel_rfl
theorem ts67 : TSize Try.prog 67 1 := fun _ => by kernel_rfl
theorem to68 : TOne Try.prog 68 := fun _ => by kernel_rfl
theorem ts68 : TSize Try.prog 68 1 := fun _ => by kernel_rfl
theorem to69 : TOne Try.prog 69 := fun _ => by kernel_rfl
theorem ts69 : TSize Try.prog 69 1 := fun _ => by kernel_rfl
theorem to70 : TOne Try.prog 70 := fun _ => by kernel_rfl
theorem ts70 : TSize Try.prog 70 1 := fun _ => by kernel_rfl
theorem to71 : TOne Try.prog 71 := fun _ => by kernel_rfl
theorem ts71 : TSize Try.prog 71 1 := fun _ => by kernel_rfl
theorem to72 : TOne Try.prog 72 := fun _ => by kernel_rfl
theorem ts72 : TSize Try.prog 72 1 := fun _ => by kernel_rfl
theorem to73 : TOne Try.prog 73 := fun _ => by kernel_rfl
theorem ts73 : TSize Try.prog 73 1 := fun _ => by kernel_rfl
theorem ta74 : TAgg Try.prog 74 3 := fun _ => ⟨by kernel_rfl, by kernel_rfl⟩
theorem ts74 : TSize Try.prog 74 3 := fun _ => by kernel_rfl
def E74 : En (Int × Int × Int) := (En.pr (En.int .i64) (En.pr (En.int .i64) (En.int .i64)))
abbrev R74 : Rep (Int × Int × Int) := Rep.fl E74
theorem tr74 : Try.prog.underlying 74 = some (.array 3 3) := by kernel_rfl
theorem to75 : TOne Try.prog 75 := fun _ => by kernel_rfl
theorem ts75 : TSize Try.prog 75 1 := fun _ => by kernel_rfl
theorem to76 : TOne Try.prog 76 := fun _ => by kernel_rfl
theorem ts76 : TSize Try.prog 76 1 := fun _ => by kernel_rfl
theorem to77 : TOne Try.prog 77 := fun _ => by kernel_rfl
theorem ts77 : TSize Try.prog 77 1 := fun _ => by kernel_rfl
theorem to78 : TOne Try.prog 78 := fun _ => by kernel_rfl
theorem ts78 : TSize Try.prog 78 1 := fun _ => by kernel_rfl
theorem ta79 : TAgg Try.prog 79 4 := fun _ => ⟨by kernel_rfl, by kernel_rfl⟩
theorem ts79 : TSize Try.prog 79 4 := fun _ => by kernel_rfl
theorem fo79_0 : FOff Try.prog 79 0 0 := fun _ _ => by kernel_rfl
theorem fo79_1 : FOff Try.prog 79 1 1 := fun _ _ => by kernel_rfl
theorem fo79_2 : FOff Try.prog 79 2 2 := fun _ _ => by kernel_rfl
theorem fo79_3 : FOff Try.prog 79 3 3 := fun _ _ => by kernel_rfl
theorem ta80 : TAgg Try.prog 80 4 := fun _ => ⟨by kernel_rfl, by kernel_rfl⟩
theorem ts80 : TSize Try.prog 80 4 := fun _ => by kernel_rfl
theorem fo80_0 : FOff Try.prog 80 0 0 := fun _ _ => by kernel_rfl
theorem fo80_1 : FOff Try.prog 80 1 1 := fun _ _ => by kernel_rfl
theorem fo80_2 : FOff Try.prog 80 2 2 := fun _ _ => by kernel_rfl
theorem fo80_3 : FOff Try.prog 80 3 3 := fun _ _ => by kernel_rfl
theorem ta81 : TAgg Try.prog 81 0 := fun _ => ⟨by kernel_rfl, by kernel_rfl⟩
theorem ts81 : TSize Try.prog 81 0 := fun _ => by kernel_rfl
theorem tr81 : Try.prog.underlying 81 = some (.array 0 16) := by kernel_rfl
theorem ta82 : TAgg Try.prog 82 0 := fun _ => ⟨by kernel_rfl, by kernel_rfl⟩
theorem ts82 : TSize Try.prog 82 0 := fun _ => by kernel_rfl
theorem ta83 : TAgg Try.prog 83 0 := fun _ => ⟨by kernel_rfl, by kernel_rfl⟩
theorem ts83 : TSize Try.prog 83 0 := fun _ => by kernel_rfl
theorem to84 : TOne Try.prog 84 := fun _ => by kernel_rfl
theorem ts84 : TSize Try.prog 84 1 := fun _ => by kernel_rfl
theorem to85 : TOne Try.prog 85 := fun _ => by kernel_rfl
theorem ts85 : TSize Try.prog 85 1 := fun _ => by kernel_rfl
def E85 : En (Int) := (En.int .u32)
abbrev R85 : Rep (Int) := Rep.fl E85
theorem tn85 : Try.prog.underlying 85 = some (.int .u32) := by kernel_rfl
theorem to86 : TOne Try.prog 86 := fun _ => by kernel_rfl
theorem ts86 : TSize Try.prog 86 1 := fun _ => by kernel_rfl
def E86 : En (Int) := (En.int .u8)
abbrev R86 : Rep (Int) := Rep.fl E86
theorem tn86 : Try.prog.underlying 86 = some (.int .u8) := by kernel_rfl
theorem to87 : TOne Try.prog 87 := fun _ => by kernel_rfl
theorem ts87 : TSize Try.prog 87 1 := fun _ => by kernel_rfl
def E87 : En (Int) := (En.int .u8)
abbrev R87 : Rep (Int) := Rep.fl E87
theorem tn87 : Try.prog.underlying 87 = some (.int .u8) := by kernel_rfl
theorem to88 : TOne Try.prog 88 := fun _ => by kernel_rfl
theorem ts88 : TSize Try.prog 88 1 := fun _ => by kernel_rfl
theorem to89 : TOne Try.prog 89 := fun _ => by kernel_rfl
theorem ts89 : TSize Try.prog 89 1 := fun _ => by kernel_rfl
theorem to90 : TOne Try.prog 90 := fun _ => by kernel_rfl
theorem ts90 : TSize Try.prog 90 1 := fun _ => by kernel_rfl
def E90 : En (Int) := (En.int .i32)
abbrev R90 : Rep (Int) := Rep.fl E90
theorem tn90 : Try.prog.underlying 90 = some (.int .i32) := by kernel_rfl
theorem to91 : TOne Try.prog 91 := fun _ => by kernel_rfl
theorem ts91 : TSize Try.prog 91 1 := fun _ => by kernel_rfl
def E91 : En (Int) := (En.int .i32)
abbrev R91 : Rep (Int) := Rep.fl E91
theorem tn91 : Try.prog.underlying 91 = some (.int .i32) := by kernel_rfl
theorem ta92 : TAgg Try.prog 92 11 := fun _ => ⟨by kernel_rfl, by kernel_rfl⟩
theorem ts92 : TSize Try.prog 92 11 := fun _ => by kernel_rfl
theorem fo92_0 : FOff Try.prog 92 0 0 := fun _ _ => by kernel_rfl
theorem fo92_1 : FOff Try.prog 92 1 1 := fun _ _ => by kernel_rfl
theorem fo92_2 : FOff Try.prog 92 2 2 := fun _ _ => by kernel_rfl
theorem fo92_3 : FOff Try.prog 92 3 3 := fun _ _ => by kernel_rfl
theorem fo92_4 : FOff Try.prog 92 4 4 := fun _ _ => by kernel_rfl
theorem fo92_5 : FOff Try.prog 92 5 5 := fun _ _ => by kernel_rfl
theorem fo92_6 : FOff Try.prog 92 6 6 := fun _ _ => by kernel_rfl
theorem fo92_7 : FOff Try.prog 92 7 7 := fun _ _ => by kernel_rfl
theorem fo92_8 : FOff Try.prog 92 8 8 := fun _ _ => by kernel_rfl
theorem fo92_9 : FOff Try.prog 92 9 9 := fun _ _ => by kernel_rfl
theorem fo92_10 : FOff Try.prog 92 10 10 := fun _ _ => by kernel_rfl
theorem ta93 : TAgg Try.prog 93 11 := fun _ => ⟨by kernel_rfl, by kernel_rfl⟩
theorem ts93 : TSize Try.prog 93 11 := fun _ => by kernel_rfl
theorem fo93_0 : FOff Try.prog 93 0 0 := fun _ _ => by kernel_rfl
theorem fo93_1 : FOff Try.prog 93 1 1 := fun _ _ => by kernel_rfl
theorem fo93_2 : FOff Try.prog 93 2 2 := fun _ _ => by kernel_rfl
theorem fo93_3 : FOff Try.prog 93 3 3 := fun _ _ => by kernel_rfl
theorem fo93_4 : FOff Try.prog 93 4 4 := fun _ _ => by kernel_rfl
theorem fo93_5 : FOff Try.prog 93 5 5 := fun _ _ => by kernel_rfl
theorem fo93_6 : FOff Try.prog 93 6 6 := fun _ _ => by kernel_rfl
theorem fo93_7 : FOff Try.prog 93 7 7 := fun _ _ => by kernel_rfl
theorem fo93_8 : FOff Try.prog 93 8 8 := fun _ _ => by kernel_rfl
theorem fo93_9 : FOff Try.prog 93 9 9 := fun _ _ => by kernel_rfl
theorem fo93_10 : FOff Try.prog 93 10 10 := fun _ _ => by kernel_rfl
def vv32 (x : Int × Int) : Value := .agg #[.int .i64 x.1, .int .i64 x.2]
def vv4 (x : Bool) : Value := .bool x
theorem ko32 : KeyOk Try.prog 32 vv32 :=
  ⟨fun e k w => by
    unfold vv32
    rw [run_checkKey_struct e 9999 32 _ (by kernel_rfl) w]
    have h3 : ∀ (e : Bool) (d : Nat) (n : Int) (w : World), (Instr.checkKey e (d + 1) 3 (.int .i64 n)).run Try.prog w = .ok () w := fun e d n w => ck_int (by kernel_rfl) e d n
    simp [go_sem, chkF, h3], fun k k' w => eql_of_bin (se32 k.1 k.2 k'.1 k'.2 w), ⟨.struct (Try.prog.fieldsOf 32), by kernel_rfl, fun k k' => .inl rfl⟩, fun k => by unfold vv32; simp [Instr.sameBits]⟩
theorem tm57 : Try.prog.underlying 57 = some (.map 32 4) := by kernel_rfl
theorem tzv57 : ∀ w, (zeroValue 4).run Try.prog w = .ok (vv4 false) w := zeroValue_of (by kernel_rfl)
theorem cf2 : CF Try.prog 2 := fun _ _ => by kernel_rfl
theorem cf3 : CF Try.prog 3 := fun _ _ => by kernel_rfl
theorem cf4 : CF Try.prog 4 := fun _ _ => by kernel_rfl
theorem cf5 : CF Try.prog 5 := fun _ _ => by kernel_rfl
theorem cf6 : CF Try.prog 6 := fun _ _ => by kernel_rfl
theorem cf7 : CF Try.prog 7 := fun _ _ => by kernel_rfl
theorem cf8 : CF Try.prog 8 := fun _ _ => by kernel_rfl
theorem cf9 : CF Try.prog 9 := fun _ _ => by kernel_rfl
theorem cf10 : CF Try.prog 10 := fun _ _ => by kernel_rfl
theorem cf11 : CF Try.prog 11 := fun _ _ => by kernel_rfl
theorem cf12 : CF Try.prog 12 := fun _ _ => by kernel_rfl
theorem cf13 : CF Try.prog 13 := fun _ _ => by kernel_rfl
theorem cf14 : CF Try.prog 14 := fun _ _ => by kernel_rfl
theorem cf15 : CF Try.prog 15 := fun _ _ => by kernel_rfl
theorem cf16 : CF Try.prog 16 := fun _ _ => by kernel_rfl
theorem cf17 : CF Try.prog 17 := fun _ _ => by kernel_rfl
theorem cf18 : CF Try.prog 18 := fun _ _ => by kernel_rfl
theorem cf19 : CF Try.prog 19 := fun _ _ => by kernel_rfl
theorem cf20 : CF Try.prog 20 := fun _ _ => by kernel_rfl
theorem cf21 : CF Try.prog 21 := fun _ _ => by kernel_rfl
theorem cf22 : CF Try.prog 22 := fun _ _ => by kernel_rfl
theorem cf23 : CF Try.prog 23 := fun _ _ => by kernel_rfl
theorem cf24 : CF Try.prog 24 := fun _ _ => by kernel_rfl
theorem cf25 : CF Try.prog 25 := fun _ _ => by kernel_rfl
theorem cf26 : CF Try.prog 26 := fun _ _ => by kernel_rfl
theorem cf27 : CF Try.prog 27 := fun _ _ => by kernel_rfl
theorem cf28 : CF Try.prog 28 := fun _ _ => by kernel_rfl
theorem cf29 : CF Try.prog 29 := fun _ _ => by kernel_rfl
theorem cf30 : CF Try.prog 30 := fun _ _ => by kernel_rfl
theorem cf31 : CF Try.prog 31 := fun _ _ => by kernel_rfl
theorem cf32 : CF Try.prog 32 := fun _ _ => by kernel_rfl
theorem cf33 : CF Try.prog 33 := fun _ _ => by kernel_rfl
theorem cf34 : CF Try.prog 34 := fun _ _ => by kernel_rfl
theorem cf35 : CF Try.prog 35 := fun _ _ => by kernel_rfl
theorem cf36 : CF Try.prog 36 := fun _ _ => by kernel_rfl
theorem cf37 : CF Try.prog 37 := fun _ _ => by kernel_rfl
theorem cf38 : CF Try.prog 38 := fun _ _ => by kernel_rfl
theorem cf39 : CF Try.prog 39 := fun _ _ => by kernel_rfl
theorem cf40 : CF Try.prog 40 := fun _ _ => by kernel_rfl
theorem cf41 : CF Try.prog 41 := fun _ _ => by kernel_rfl
theorem cf42 : CF Try.prog 42 := fun _ _ => by kernel_rfl
theorem cf43 : CF Try.prog 43 := fun _ _ => by kernel_rfl
theorem cf44 : CF Try.prog 44 := fun _ _ => by kernel_rfl
theorem cf45 : CF Try.prog 45 := fun _ _ => by kernel_rfl
theorem cf46 : CF Try.prog 46 := fun _ _ => by kernel_rfl
theorem cf47 : CF Try.prog 47 := fun _ _ => by kernel_rfl
theorem cf48 : CF Try.prog 48 := fun _ _ => by kernel_rfl
theorem cf49 : CF Try.prog 49 := fun _ _ => by kernel_rfl
theorem cf50 : CF Try.prog 50 := fun _ _ => by kernel_rfl
theorem cf51 : CF Try.prog 51 := fun _ _ => by kernel_rfl
theorem cf52 : CF Try.prog 52 := fun _ _ => by kernel_rfl
theorem cf53 : CF Try.prog 53 := fun _ _ => by kernel_rfl
theorem cf54 : CF Try.prog 54 := fun _ _ => by kernel_rfl
theorem cf55 : CF Try.prog 55 := fun _ _ => by kernel_rfl
theorem cf56 : CF Try.prog 56 := fun _ _ => by kernel_rfl
theorem cf57 : CF Try.prog 57 := fun _ _ => by kernel_rfl
theorem cf58 : CF Try.prog 58 := fun _ _ => by kernel_rfl
theorem cf59 : CF Try.prog 59 := fun _ _ => by kernel_rfl
theorem cf60 : CF Try.prog 60 := fun _ _ => by kernel_rfl
theorem cf61 : CF Try.prog 61 := fun _ _ => by kernel_rfl
end Go.Proofs.Ythkmkmkcnljmaaa
