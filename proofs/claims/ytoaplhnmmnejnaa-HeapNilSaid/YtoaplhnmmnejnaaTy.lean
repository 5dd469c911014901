/-
  Closed facts on the types and functions of the program at hand, for the walks.
-/
import Derived.Test.YtoaplhnmmnejnaaRop
import Derived.Test.YtoaplhnmmnejnaaFl
import Derived.Test.YtoaplhnmmnejnaaProg
import Derived.Laws.StructEq
import Derived.WalkKit
namespace Go.Proofs.Ytoaplhnmmnejnaa
open Go.RowKit
theorem g_mixed : Try.prog.follows .mixedOrders = true := by kernel_rfl
theorem to1 : TOne Try.prog 1 := fun _ => by kernel_rfl
theorem ts1 : TSize Try.prog 1 1 := fun _ => by kernel_rfl
theorem to2 : TOne Try.prog 2 := fun _ => by kernel_rfl
theorem ts2 : TSize Try.prog 2 1 := fun _ => by kernel_rfl
def E2 : En (Int) := (En.int .i64)
abbrev R2 : Rep (Int) := Rep.fl E2
theorem tn2 : Try.prog.underlying 2 = some (.int .i64) := by kernel_rfl
theorem to3 : TOne Try.prog 3 := fun _ => by kernel_rfl
theorem ts3 : TSize Try.prog 3 1 := fun _ => by kernel_rfl
def E3 : En (Int) := (En.int .i64)
abbrev R3 : Rep (Int) := Rep.fl E3
theorem tn3 : Try.prog.underlying 3 = some (.int .i64) := by kernel_rfl
theorem to4 : TOne Try.prog 4 := fun _ => by kernel_rfl
theorem ts4 : TSize Try.prog 4 1 := fun _ => by kernel_rfl
def E4 : En (Bool) := En.bool
abbrev R4 : Rep (Bool) := Rep.fl E4
theorem tb4 : Try.prog.underlying 4 = some .bool := by kernel_rfl
theorem to5 : TOne Try.prog 5 := fun _ => by kernel_rfl
theorem ts5 : TSize Try.prog 5 1 := fun _ => by kernel_rfl
def E5 : En (Int) := (En.int .u8)
abbrev R5 : Rep (Int) := Rep.fl E5
theorem tn5 : Try.prog.underlying 5 = some (.int .u8) := by kernel_rfl
theorem to6 : TOne Try.prog 6 := fun _ => by kernel_rfl
theorem ts6 : TSize Try.prog 6 1 := fun _ => by kernel_rfl
def E6 : En (Int) := (En.int .u8)
abbrev R6 : Rep (Int) := Rep.fl E6
theorem tn6 : Try.prog.underlying 6 = some (.int .u8) := by kernel_rfl
theorem ta7 : TAgg Try.prog 7 4 := fun _ => ⟨by kernel_rfl, by kernel_rfl⟩
theorem ts7 : TSize Try.prog 7 4 := fun _ => by kernel_rfl
def E7 : En (Int × Int × Bool × Int) := (En.pr (En.int .i64) (En.pr (En.int .i64) (En.pr En.bool (En.int .u8))))
abbrev R7 : Rep (Int × Int × Bool × Int) := Rep.fl E7
theorem fo7_0 : FOff Try.prog 7 0 0 := fun _ _ => by kernel_rfl
theorem fo7_1 : FOff Try.prog 7 1 1 := fun _ _ => by kernel_rfl
theorem fo7_2 : FOff Try.prog 7 2 2 := fun _ _ => by kernel_rfl
theorem fo7_3 : FOff Try.prog 7 3 3 := fun _ _ => by kernel_rfl
theorem ta8 : TAgg Try.prog 8 4 := fun _ => ⟨by kernel_rfl, by kernel_rfl⟩
theorem ts8 : TSize Try.prog 8 4 := fun _ => by kernel_rfl
def E8 : En (Int × Int × Bool × Int) := (En.pr (En.int .i64) (En.pr (En.int .i64) (En.pr En.bool (En.int .u8))))
abbrev R8 : Rep (Int × Int × Bool × Int) := Rep.fl E8
theorem fo8_0 : FOff Try.prog 8 0 0 := fun _ _ => by kernel_rfl
theorem fo8_1 : FOff Try.prog 8 1 1 := fun _ _ => by kernel_rfl
theorem fo8_2 : FOff Try.prog 8 2 2 := fun _ _ => by kernel_rfl
theorem fo8_3 : FOff Try.prog 8 3 3 := fun _ _ => by kernel_rfl
theorem to9 : TOne Try.prog 9 := fun _ => by kernel_rfl
theorem ts9 : TSize Try.prog 9 1 := fun _ => by kernel_rfl
def E9 : En (ByteArray) := En.str
abbrev R9 : Rep (ByteArray) := Rep.fl E9
theorem to10 : TOne Try.prog 10 := fun _ => by kernel_rfl
theorem ts10 : TSize Try.prog 10 1 := fun _ => by kernel_rfl
def E10 : En (ByteArray) := En.str
abbrev R10 : Rep (ByteArray) := Rep.fl E10
theorem to11 : TOne Try.prog 11 := fun _ => by kernel_rfl
theorem ts11 : TSize Try.prog 11 1 := fun _ => by kernel_rfl
def E11 : En (ByteArray) := En.str
abbrev R11 : Rep (ByteArray) := Rep.fl E11
theorem to12 : TOne Try.prog 12 := fun _ => by kernel_rfl
theorem ts12 : TSize Try.prog 12 1 := fun _ => by kernel_rfl
def E12 : En (Int) := (En.int .u64)
abbrev R12 : Rep (Int) := Rep.fl E12
theorem tn12 : Try.prog.underlying 12 = some (.int .u64) := by kernel_rfl
theorem ta13 : TAgg Try.prog 13 2 := fun _ => ⟨by kernel_rfl, by kernel_rfl⟩
theorem ts13 : TSize Try.prog 13 2 := fun _ => by kernel_rfl
def E13 : En (ByteArray × Int) := (En.pr En.str (En.int .u64))
abbrev R13 : Rep (ByteArray × Int) := Rep.fl E13
theorem fo13_0 : FOff Try.prog 13 0 0 := fun _ _ => by kernel_rfl
theorem fo13_1 : FOff Try.prog 13 1 1 := fun _ _ => by kernel_rfl
theorem ta14 : TAgg Try.prog 14 2 := fun _ => ⟨by kernel_rfl, by kernel_rfl⟩
theorem ts14 : TSize Try.prog 14 2 := fun _ => by kernel_rfl
def E14 : En (ByteArray × Int) := (En.pr En.str (En.int .u64))
abbrev R14 : Rep (ByteArray × Int) := Rep.fl E14
theorem fo14_0 : FOff Try.prog 14 0 0 := fun _ _ => by kernel_rfl
theorem fo14_1 : FOff Try.prog 14 1 1 := fun _ _ => by kernel_rfl
theorem to15 : TOne Try.prog 15 := fun _ => by kernel_rfl
theorem ts15 : TSize Try.prog 15 1 := fun _ => by kernel_rfl
theorem to16 : TOne Try.prog 16 := fun _ => by kernel_rfl
theorem ts16 : TSize Try.prog 16 1 := fun _ => by kernel_rfl
theorem to17 : TOne Try.prog 17 := fun _ => by kernel_rfl
theorem ts17 : TSize Try.prog 17 1 := fun _ => by kernel_rfl
theorem ta18 : TAgg Try.prog 18 1 := fun _ => ⟨by kernel_rfl, by kernel_rfl⟩
theorem ts18 : TSize Try.prog 18 1 := fun _ => by kernel_rfl
theorem fo18_0 : FOff Try.prog 18 0 0 := fun _ _ => by kernel_rfl
theorem ta19 : TAgg Try.prog 19 1 := fun _ => ⟨by kernel_rfl, by kernel_rfl⟩
theorem ts19 : TSize Try.prog 19 1 := fun _ => by kernel_rfl
theorem fo19_0 : FOff Try.prog 19 0 0 := fun _ _ => by kernel_rfl
theorem to21 : TOne Try.prog 21 := fun _ => by kernel_rfl
theorem ts21 : TSize Try.prog 21 1 := fun _ => by kernel_rfl
def E21 : En (Int) := (En.int .i32)
abbrev R21 : Rep (Int) := Rep.fl E21
theorem tn21 : Try.prog.underlying 21 = some (.int .i32) := by kernel_rfl
theorem to22 : TOne Try.prog 22 := fun _ => by kernel_rfl
theorem ts22 : TSize Try.prog 22 1 := fun _ => by kernel_rfl
theorem tl22 : TSlice Try.prog 22 3 := ⟨30, by kernel_rfl, fun _ => by kernel_rfl⟩
theorem tu22 : Try.prog.underlying 22 = some (.slice 30) := by kernel_rfl
theorem tp22 : TApp Try.prog 22 30 3 24 := tapp_of (z := .agg #[.int .i64 0, .int .i64 0, .int .i64 0]) (by kernel_rfl) (by kernel_rfl) (by kernel_rfl) (by decide)
theorem ta23 : TAgg Try.prog 23 1 := fun _ => ⟨by kernel_rfl, by kernel_rfl⟩
theorem ts23 : TSize Try.prog 23 1 := fun _ => by kernel_rfl
theorem fo23_0 : FOff Try.prog 23 0 0 := fun _ _ => by kernel_rfl
theorem ta24 : TAgg Try.prog 24 1 := fun _ => ⟨by kernel_rfl, by kernel_rfl⟩
theorem ts24 : TSize Try.prog 24 1 := fun _ => by kernel_rfl
theorem fo24_0 : FOff Try.prog 24 0 0 := fun _ _ => by kernel_rfl
theorem ta25 : TAgg Try.prog 25 1 := fun _ => ⟨by kernel_rfl, by kernel_rfl⟩
theorem ts25 : TSize Try.prog 25 1 := fun _ => by kernel_rfl
theorem fo25_0 : FOff Try.prog 25 0 0 := fun _ _ => by kernel_rfl
theorem ta26 : TAgg Try.prog 26 1 := fun _ => ⟨by kernel_rfl, by kernel_rfl⟩
theorem ts26 : TSize Try.prog 26 1 := fun _ => by kernel_rfl
theorem fo26_0 : FOff Try.prog 26 0 0 := fun _ _ => by kernel_rfl
theorem to27 : TOne Try.prog 27 := fun _ => by kernel_rfl
theorem ts27 : TSize Try.prog 27 1 := fun _ => by kernel_rfl
theorem to28 : TOne Try.prog 28 := fun _ => by kernel_rfl
theorem ts28 : TSize Try.prog 28 1 := fun _ => by kernel_rfl
theorem ta29 : TAgg Try.prog 29 3 := fun _ => ⟨by kernel_rfl, by kernel_rfl⟩
theorem ts29 : TSize Try.prog 29 3 := fun _ => by kernel_rfl
def E29 : En (Int × Int × Int) := (En.pr (En.int .i64) (En.pr (En.int .i64) (En.int .i64)))
abbrev R29 : Rep (Int × Int × Int) := Rep.fl E29
theorem fo29_0 : FOff Try.prog 29 0 0 := fun _ _ => by kernel_rfl
theorem fo29_1 : FOff Try.prog 29 1 1 := fun _ _ => by kernel_rfl
theorem fo29_2 : FOff Try.prog 29 2 2 := fun _ _ => by kernel_rfl
theorem se29 (x0 x1 x2 y0 y1 y2 : Int) (w : World) : (binOp .eql 29 (.agg #[.int .i64 x0, .int .i64 x1, .int .i64 x2]) (.agg #[.int .i64 y0, .int .i64 y1, .int .i64 y2])).run Try.prog w = .ok (.bool (decide ((x0, x1, x2) = (y0, y1, y2)))) w := by
  go_simp
  by_cases h0 : x0 = y0 <;> by_cases h1 : x1 = y1 <;> by_cases h2 : x2 = y2 <;> simp [h0, h1, h2]
theorem sn29 (x0 x1 x2 y0 y1 y2 : Int) (w : World) : (binOp .neq 29 (.agg #[.int .i64 x0, .int .i64 x1, .int .i64 x2]) (.agg #[.int .i64 y0, .int .i64 y1, .int .i64 y2])).run Try.prog w = .ok (.bool (!decide ((x0, x1, x2) = (y0, y1, y2)))) w := by
  go_simp
  by_cases h0 : x0 = y0 <;> by_cases h1 : x1 = y1 <;> by_cases h2 : x2 = y2 <;> simp [h0, h1, h2]
theorem sg29 : TGuard Try.prog 29 := fun op x y xs ys w => run_eqGuard_agg w op 29 x y xs ys (by kernel_rfl)
theorem ta30 : TAgg Try.prog 30 3 := fun _ => ⟨by kernel_rfl, by kernel_rfl⟩
theorem ts30 : TSize Try.prog 30 3 := fun _ => by kernel_rfl
def E30 : En (Int × Int × Int) := (En.pr (En.int .i64) (En.pr (En.int .i64) (En.int .i64)))
abbrev R30 : Rep (Int × Int × Int) := Rep.fl E30
theorem fo30_0 : FOff Try.prog 30 0 0 := fun _ _ => by kernel_rfl
theorem fo30_1 : FOff Try.prog 30 1 1 := fun _ _ => by kernel_rfl
theorem fo30_2 : FOff Try.prog 30 2 2 := fun _ _ => by kernel_rfl
theorem se30 (x0 x1 x2 y0 y1 y2 : Int) (w : World) : (binOp .eql 30 (.agg #[.int .i64 x0, .int .i64 x1, .int .i64 x2]) (.agg #[.int .i64 y0, .int .i64 y1, .int .i64 y2])).run Try.prog w = .ok (.bool (decide ((x0, x1, x2) = (y0, y1, y2)))) w := by
  go_simp
  by_cases h0 : x0 = y0 <;> by_cases h1 : x1 = y1 <;> by_cases h2 : x2 = y2 <;> simp [h0, h1, h2]
theorem sn30 (x0 x1 x2 y0 y1 y2 : Int) (w : World) : (binOp .neq 30 (.agg #[.int .i64 x0, .int .i64 x1, .int .i64 x2]) (.agg #[.int .i64 y0, .int .i64 y1, .int .i64 y2])).run Try.prog w = .ok (.bool (!decide ((x0, x1, x2) = (y0, y1, y2)))) w := by
  go_simp
  by_cases h0 : x0 = y0 <;> by_cases h1 : x1 = y1 <;> by_cases h2 : x2 = y2 <;> simp [h0, h1, h2]
theorem sg30 : TGuard Try.prog 30 := fun op x y xs ys w => run_eqGuard_agg w op 30 x y xs ys (by kernel_rfl)
theorem to32 : TOne Try.prog 32 := fun _ => by kernel_rfl
theorem ts32 : TSize Try.prog 32 1 := fun _ => by kernel_rfl
theorem to33 : TOne Try.prog 33 := fun _ => by kernel_rfl
theorem ts33 : TSize Try.prog 33 1 := fun _ => by kernel_rfl
theorem to34 : TOne Try.prog 34 := fun _ => by kernel_rfl
theorem ts34 : TSize Try.prog 34 1 := fun _ => by kernel_rfl
theorem to35 : TOne Try.prog 35 := fun _ => by kernel_rfl
theorem ts35 : TSize Try.prog 35 1 := fun _ => by kernel_rfl
theorem to36 : TOne Try.prog 36 := fun _ => by kernel_rfl
theorem ts36 : TSize Try.prog 36 1 := fun _ => by kernel_rfl
theorem to37 : TOne Try.prog 37 := fun _ => by kernel_rfl
theorem ts37 : TSize Try.prog 37 1 := fun _ => by kernel_rfl
theorem tl37 : TSlice Try.prog 37 7 := ⟨40, by kernel_rfl, fun _ => by kernel_rfl⟩
theorem tu37 : Try.prog.underlying 37 = some (.slice 40) := by kernel_rfl
theorem tp37 : TApp Try.prog 37 40 7 56 := tapp_of (z := .agg #[.int .i64 0, .int .i64 0, .int .i64 0, .int .i64 0, .int .i64 0, .int .i64 0, .int .i64 0]) (by kernel_rfl) (by kernel_rfl) (by kernel_rfl) (by decide)
theorem to38 : TOne Try.prog 38 := fun _ => by kernel_rfl
theorem ts38 : TSize Try.prog 38 1 := fun _ => by kernel_rfl
theorem tl38 : TSlice Try.prog 38 3 := ⟨41, by kernel_rfl, fun _ => by kernel_rfl⟩
theorem tu38 : Try.prog.underlying 38 = some (.slice 41) := by kernel_rfl
theorem tp38 : TApp Try.prog 38 41 3 24 := tapp_of (z := .agg #[.int .i64 0, .int .i64 0, .int .i64 0]) (by kernel_rfl) (by kernel_rfl) (by kernel_rfl) (by decide)
theorem ta39 : TAgg Try.prog 39 7 := fun _ => ⟨by kernel_rfl, by kernel_rfl⟩
theorem ts39 : TSize Try.prog 39 7 := fun _ => by kernel_rfl
def E39 : En (Int × (Int × Int × Int) × (Int × Int × Int)) := (En.pr (En.int .i64) (En.pr (En.pr (En.int .i64) (En.pr (En.int .i64) (En.int .i64))) (En.pr (En.int .i64) (En.pr (En.int .i64) (En.int .i64)))))
abbrev R39 : Rep (Int × (Int × Int × Int) × (Int × Int × Int)) := Rep.fl E39
theorem fo39_0 : FOff Try.prog 39 0 0 := fun _ _ => by kernel_rfl
theorem fo39_1 : FOff Try.prog 39 1 1 := fun _ _ => by kernel_rfl
theorem fo39_2 : FOff Try.prog 39 2 4 := fun _ _ => by kernel_rfl
theorem se39 (x0 x1 x2 x3 x4 x5 x6 y0 y1 y2 y3 y4 y5 y6 : Int) (w : World) : (binOp .eql 39 (.agg #[.int .i64 x0, .int .i64 x1, .int .i64 x2, .int .i64 x3, .int .i64 x4, .int .i64 x5, .int .i64 x6]) (.agg #[.int .i64 y0, .int .i64 y1, .int .i64 y2, .int .i64 y3, .int .i64 y4, .int .i64 y5, .int .i64 y6])).run Try.prog w = .ok (.bool (decide ((x0, (x1, x2, x3), (x4, x5, x6)) = (y0, (y1, y2, y3), (y4, y5, y6))))) w := by
  go_simp
  by_cases h0 : x0 = y0 <;> by_cases h1 : x1 = y1 <;> by_cases h2 : x2 = y2 <;> by_cases h3 : x3 = y3 <;> by_cases h4 : x4 = y4 <;> by_cases h5 : x5 = y5 <;> by_cases h6 : x6 = y6 <;> simp [h0, h1, h2, h3, h4, h5, h6]
theorem sn39 (x0 x1 x2 x3 x4 x5 x6 y0 y1 y2 y3 y4 y5 y6 : Int) (w : World) : (binOp .neq 39 (.agg #[.int .i64 x0, .int .i64 x1, .int .i64 x2, .int .i64 x3, .int .i64 x4, .int .i64 x5, .int .i64 x6]) (.agg #[.int .i64 y0, .int .i64 y1, .int .i64 y2, .int .i64 y3, .int .i64 y4, .int .i64 y5, .int .i64 y6])).run Try.prog w = .ok (.bool (!decide ((x0, (x1, x2, x3), (x4, x5, x6)) = (y0, (y1, y2, y3), (y4, y5, y6))))) w := by
  go_simp
  by_cases h0 : x0 = y0 <;> by_cases h1 : x1 = y1 <;> by_cases h2 : x2 = y2 <;> by_cases h3 : x3 = y3 <;> by_cases h4 : x4 = y4 <;> by_cases h5 : x5 = y5 <;> by_cases h6 : x6 = y6 <;> simp [h0, h1, h2, h3, h4, h5, h6]
theorem sg39 : TGuard Try.prog 39 := fun op x y xs ys w => run_eqGuard_agg w op 39 x y xs ys (by kernel_rfl)
theorem ta40 : TAgg Try.prog 40 7 := fun _ => ⟨by kernel_rfl, by kernel_rfl⟩
theorem ts40 : TSize Try.prog 40 7 := fun _ => by kernel_rfl
def E40 : En (Int × (Int × Int × Int) × (Int × Int × Int)) := (En.pr (En.int .i64) (En.pr (En.pr (En.int .i64) (En.pr (En.int .i64) (En.int .i64))) (En.pr (En.int .i64) (En.pr (En.int .i64) (En.int .i64)))))
abbrev R40 : Rep (Int × (Int × Int × Int) × (Int × Int × Int)) := Rep.fl E40
theorem fo40_0 : FOff Try.prog 40 0 0 := fun _ _ => by kernel_rfl
theorem fo40_1 : FOff Try.prog 40 1 1 := fun _ _ => by kernel_rfl
theorem fo40_2 : FOff Try.prog 40 2 4 := fun _ _ => by kernel_rfl
theorem se40 (x0 x1 x2 x3 x4 x5 x6 y0 y1 y2 y3 y4 y5 y6 : Int) (w : World) : (binOp .eql 40 (.agg #[.int .i64 x0, .int .i64 x1, .int .i64 x2, .int .i64 x3, .int .i64 x4, .int .i64 x5, .int .i64 x6]) (.agg #[.int .i64 y0, .int .i64 y1, .int .i64 y2, .int .i64 y3, .int .i64 y4, .int .i64 y5, .int .i64 y6])).run Try.prog w = .ok (.bool (decide ((x0, (x1, x2, x3), (x4, x5, x6)) = (y0, (y1, y2, y3), (y4, y5, y6))))) w := by
  go_simp
  by_cases h0 : x0 = y0 <;> by_cases h1 : x1 = y1 <;> by_cases h2 : x2 = y2 <;> by_cases h3 : x3 = y3 <;> by_cases h4 : x4 = y4 <;> by_cases h5 : x5 = y5 <;> by_cases h6 : x6 = y6 <;> simp [h0, h1, h2, h3, h4, h5, h6]
theorem sn40 (x0 x1 x2 x3 x4 x5 x6 y0 y1 y2 y3 y4 y5 y6 : Int) (w : World) : (binOp .neq 40 (.agg #[.int .i64 x0, .int .i64 x1, .int .i64 x2, .int .i64 x3, .int .i64 x4, .int .i64 x5, .int .i64 x6]) (.agg #[.int .i64 y0, .int .i64 y1, .int .i64 y2, .int .i64 y3, .int .i64 y4, .int .i64 y5, .int .i64 y6])).run Try.prog w = .ok (.bool (!decide ((x0, (x1, x2, x3), (x4, x5, x6)) = (y0, (y1, y2, y3), (y4, y5, y6))))) w := by
  go_simp
  by_cases h0 : x0 = y0 <;> by_cases h1 : x1 = y1 <;> by_cases h2 : x2 = y2 <;> by_cases h3 : x3 = y3 <;> by_cases h4 : x4 = y4 <;> by_cases h5 : x5 = y5 <;> by_cases h6 : x6 = y6 <;> simp [h0, h1, h2, h3, h4, h5, h6]
theorem sg40 : TGuard Try.prog 40 := fun op x y xs ys w => run_eqGuard_agg w op 40 x y xs ys (by kernel_rfl)
theorem ta41 : TAgg Try.prog 41 3 := fun _ => ⟨by kernel_rfl, by kernel_rfl⟩
theorem ts41 : TSize Try.prog 41 3 := fun _ => by kernel_rfl
def E41 : En (Int × Int × Int) := (En.pr (En.int .i64) (En.pr (En.int .i64) (En.int .i64)))
abbrev R41 : Rep (Int × Int × Int) := Rep.fl E41
theorem fo41_0 : FOff Try.prog 41 0 0 := fun _ _ => by kernel_rfl
theorem fo41_1 : FOff Try.prog 41 1 1 := fun _ _ => by kernel_rfl
theorem fo41_2 : FOff Try.prog 41 2 2 := fun _ _ => by kernel_rfl
theorem se41 (x0 x1 x2 y0 y1 y2 : Int) (w : World) : (binOp .eql 41 (.agg #[.int .i64 x0, .int .i64 x1, .int .i64 x2]) (.agg #[.int .i64 y0, .int .i64 y1, .int .i64 y2])).run Try.prog w = .ok (.bool (decide ((x0, x1, x2) = (y0, y1, y2)))) w := by
  go_simp
  by_cases h0 : x0 = y0 <;> by_cases h1 : x1 = y1 <;> by_cases h2 : x2 = y2 <;> simp [h0, h1, h2]
theorem sn41 (x0 x1 x2 y0 y1 y2 : Int) (w : World) : (binOp .neq 41 (.agg #[.int .i64 x0, .int .i64 x1, .int .i64 x2]) (.agg #[.int .i64 y0, .int .i64 y1, .int .i64 y2])).run Try.prog w = .ok (.bool (!decide ((x0, x1, x2) = (y0, y1, y2)))) w := by
  go_simp
  by_cases h0 : x0 = y0 <;> by_cases h1 : x1 = y1 <;> by_cases h2 : x2 = y2 <;> simp [h0, h1, h2]
theorem sg41 : TGuard Try.prog 41 := fun op x y xs ys w => run_eqGuard_agg w op 41 x y xs ys (by kernel_rfl)
theorem to43 : TOne Try.prog 43 := fun _ => by kernel_rfl
theorem ts43 : TSize Try.prog 43 1 := fun _ => by kernel_rfl
theorem to44 : TOne Try.prog 44 := fun _ => by kernel_rfl
theorem ts44 : TSize Try.prog 44 1 := fun _ => by kernel_rfl
theorem to45 : TOne Try.prog 45 := fun _ => by kernel_rfl
theorem ts45 : TSize Try.prog 45 1 := fun _ => by kernel_rfl
theorem to46 : TOne Try.prog 46 := fun _ => by kernel_rfl
theorem ts46 : TSize Try.prog 46 1 := fun _ => by kernel_rfl
theorem to47 : TOne Try.prog 47 := fun _ => by kernel_rfl
theorem ts47 : TSize Try.prog 47 1 := fun _ => by kernel_rfl
theorem to48 : TOne Try.prog 48 := fun _ => by kernel_rfl
theorem ts48 : TSize Try.prog 48 1 := fun _ => by kernel_rfl
theorem to49 : TOne Try.prog 49 := fun _ => by kernel_rfl
theorem ts49 : TSize Try.prog 49 1 := fun _ => by kernel_rfl
theorem to50 : TOne Try.prog 50 := fun _ => by kernel_rfl
theorem ts50 : TSize Try.prog 50 1 := fun _ => by kernel_rfl
theorem to51 : TOne Try.prog 51 := fun _ => by kernel_rfl
theorem ts51 : TSize Try.prog 51 1 := fun _ => by kernel_rfl
theorem to52 : TOne Try.prog 52 := fun _ => by kernel_rfl
theorem ts52 : TSize Try.prog 52 1 := fun _ => by kernel_rfl
theorem to53 : TOne Try.prog 53 := fun _ => by kernel_rfl
theorem ts53 : TSize Try.prog 53 1 := fun _ => by kernel_rfl
theorem to54 : TOne Try.prog 54 := fun _ => by kernel_rfl
theorem ts54 : TSize Try.prog 54 1 := fun _ => by kernel_rfl
theorem to55 : TOne Try.prog 55 := fun _ => by kernel_rfl
theorem ts55 : TSize Try.prog 55 1 := fun _ => by kernel_rfl
theorem ta56 : TAgg Try.prog 56 4 := fun _ => ⟨by kernel_rfl, by kernel_rfl⟩
theorem ts56 : TSize Try.prog 56 4 := fun _ => by kernel_rfl
theorem fo56_0 : FOff Try.prog 56 0 0 := fun _ _ => by kernel_rfl
theorem fo56_1 : FOff Try.prog 56 1 1 := fun _ _ => by kernel_rfl
theorem fo56_2 : FOff Try.prog 56 2 2 := fun _ _ => by kernel_rfl
theorem fo56_3 : FOff Try.prog 56 3 3 := fun _ _ => by kernel_rfl
theorem ta57 : TAgg Try.prog 57 4 := fun _ => ⟨by kernel_rfl, by kernel_rfl⟩
theorem ts57 : TSize Try.prog 57 4 := fun _ => by kernel_rfl
theorem fo57_0 : FOff Try.prog 57 0 0 := fun _ _ => by kernel_rfl
theorem fo57_1 : FOff Try.prog 57 1 1 := fun _ _ => by kernel_rfl
theorem fo57_2 : FOff Try.prog 57 2 2 := fun _ _ => by kernel_rfl
theorem fo57_3 : FOff Try.prog 57 3 3 := fun _ _ => by kernel_rfl
theorem ta58 : TAgg Try.prog 58 0 := fun _ => ⟨by kernel_rfl, by kernel_rfl⟩
theorem ts58 : TSize Try.prog 58 0 := fun _ => by kernel_rfl
theorem ta59 : TAgg Try.prog 59 0 := fun _ => ⟨by kernel_rfl, by kernel_rfl⟩
theorem ts59 : TSize Try.prog 59 0 := fun _ => by kernel_rfl
theorem ta60 : TAgg Try.prog 60 0 := fun _ => ⟨by kernel_rfl, by kernel_rfl⟩
theorem ts60 : TSize Try.prog 60 0 := fun _ => by kernel_rfl
theorem to61 : TOne Try.prog 61 := fun _ => by kernel_rfl
theorem ts61 : TSize Try.prog 61 1 := fun _ => by kernel_rfl
def E61 : En (Int) := (En.int .u32)
abbrev R61 : Rep (Int) := Rep.fl E61
theorem tn61 : Try.prog.underlying 61 = some (.int .u32) := by kernel_rfl
theorem to62 : TOne Try.prog 62 := fun _ => by kernel_rfl
theorem ts62 : TSize Try.prog 62 1 := fun _ => by kernel_rfl
def E62 : En (Int) := (En.int .u8)
abbrev R62 : Rep (Int) := Rep.fl E62
theorem tn62 : Try.prog.underlying 62 = some (.int .u8) := by kernel_rfl
theorem to63 : TOne Try.prog 63 := fun _ => by kernel_rfl
theorem ts63 : TSize Try.prog 63 1 := fun _ => by kernel_rfl
def E63 : En (Int) := (En.int .u8)
abbrev R63 : Rep (Int) := Rep.fl E63
theorem tn63 : Try.prog.underlying 63 = some (.int .u8) := by kernel_rfl
theorem to64 : TOne Try.prog 64 := fun _ => by kernel_rfl
theorem ts64 : TSize Try.prog 64 1 := fun _ => by kernel_rfl
theorem to65 : TOne Try.prog 65 := fun _ => by kernel_rfl
theorem ts65 : TSize Try.prog 65 1 := fun _ => by kernel_rfl
theorem to66 : TOne Try.prog 66 := fun _ => by kernel_rfl
theorem ts66 : TSize Try.prog 66 1 := fun _ => by kernel_rfl
def E66 : En (Int) := (En.int .i32)
abbrev R66 : Rep (Int) := Rep.fl E66
theorem tn66 : Try.prog.underlying 66 = some (.int .i32) := by kernel_rfl
theorem to67 : TOne Try.prog 67 := fun _ => by kernel_rfl
theorem ts67 : TSize Try.prog 67 1 := fun _ => by kernel_rfl
def E67 : En (Int) := (En.int .i32)
abbrev R67 : Rep (Int) := Rep.fl E67
theorem tn67 : Try.prog.underlying 67 = some (.int .i32) := by kernel_rfl
theorem ta68 : TAgg Try.prog 68 11 := fun _ => ⟨by kernel_rfl, by kernel_rfl⟩
theorem ts68 : TSize Try.prog 68 11 := fun _ => by kernel_rfl
theorem fo68_0 : FOff Try.prog 68 0 0 := fun _ _ => by kernel_rfl
theorem fo68_1 : FOff Try.prog 68 1 1 := fun _ _ => by kernel_rfl
theorem fo68_2 : FOff Try.prog 68 2 2 := fun _ _ => by kernel_rfl
theorem fo68_3 : FOff Try.prog 68 3 3 := fun _ _ => by kernel_rfl
theorem fo68_4 : FOff Try.prog 68 4 4 := fun _ _ => by kernel_rfl
theorem fo68_5 : FOff Try.prog 68 5 5 := fun _ _ => by kernel_rfl
theorem fo68_6 : FOff Try.prog 68 6 6 := fun _ _ => by kernel_rfl
theorem fo68_7 : FOff Try.prog 68 7 7 := fun _ _ => by kernel_rfl
theorem fo68_8 : FOff Try.prog 68 8 8 := fun _ _ => by kernel_rfl
theorem fo68_9 : FOff Try.prog 68 9 9 := fun _ _ => by kernel_rfl
theorem fo68_10 : FOff Try.prog 68 10 10 := fun _ _ => by kernel_rfl
theorem ta69 : TAgg Try.prog 69 11 := fun _ => ⟨by kernel_rfl, by kernel_rfl⟩
theorem ts69 : TSize Try.prog 69 11 := fun _ => by kernel_rfl
theorem fo69_0 : FOff Try.prog 69 0 0 := fun _ _ => by kernel_rfl
theorem fo69_1 : FOff Try.prog 69 1 1 := fun _ _ => by kernel_rfl
theorem fo69_2 : FOff Try.prog 69 2 2 := fun _ _ => by kernel_rfl
theorem fo69_3 : FOff Try.prog 69 3 3 := fun _ _ => by kernel_rfl
theorem fo69_4 : FOff Try.prog 69 4 4 := fun _ _ => by kernel_rfl
theorem fo69_5 : FOff Try.prog 69 5 5 := fun _ _ => by kernel_rfl
theorem fo69_6 : FOff Try.prog 69 6 6 := fun _ _ => by kernel_rfl
theorem fo69_7 : FOff Try.prog 69 7 7 := fun _ _ => by kernel_rfl
theorem fo69_8 : FOff Try.prog 69 8 8 := fun _ _ => by kernel_rfl
theorem fo69_9 : FOff Try.prog 69 9 9 := fun _ _ => by kernel_rfl
theorem fo69_10 : FOff Try.prog 69 10 10 := fun _ _ => by kernel_rfl
theorem cf2 : CF Try.prog 2 := fun _ _ => by kernel_rfl
theorem cf3 : CF Try.prog 3 := fun _ _ => by kernel_rfl
theorem cf4 : CF Try.prog 4 := fun _ _ => by kernel_rfl
theorem cf5 : CF Try.prog 5 := fun _ _ => by kernel_rfl
theorem cf6 : CF Try.prog 6 := fun _ _ => by kernel_rfl
theorem cf7 : CF Try.prog 7 := fun _ _ => by kernel_rfl
theorem cf8 : CF Try.prog 8 := fun _ _ => by kernel_rfl
theorem cf9 : CF Try.prog 9 := fun _ _ => by kernel_rfl
theorem cf10 : CF Try.prog 10 := fun _ _ => by kernel_rfl
theorem cf11 : CF Try.prog 11 := fun _ _ => by kernel_rfl
theorem cf12 : CF Try.prog 12 := fun _ _ => by kernel_rfl
theorem cf13 : CF Try.prog 13 := fun _ _ => by kernel_rfl
theorem cf14 : CF Try.prog 14 := fun _ _ => by kernel_rfl
theorem cf15 : CF Try.prog 15 := fun _ _ => by kernel_rfl
theorem cf16 : CF Try.prog 16 := fun _ _ => by kernel_rfl
theorem cf17 : CF Try.prog 17 := fun _ _ => by kernel_rfl
theorem cf18 : CF Try.prog 18 := fun _ _ => by kernel_rfl
theorem cf19 : CF Try.prog 19 := fun _ _ => by kernel_rfl
theorem cf20 : CF Try.prog 20 := fun _ _ => by kernel_rfl
theorem cf21 : CF Try.prog 21 := fun _ _ => by kernel_rfl
theorem cf22 : CF Try.prog 22 := fun _ _ => by kernel_rfl
theorem cf23 : CF Try.prog 23 := fun _ _ => by kernel_rfl
end Go.Proofs.Ytoaplhnmmnejnaa
