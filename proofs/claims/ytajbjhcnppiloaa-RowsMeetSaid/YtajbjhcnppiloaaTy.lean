/-
  Closed facts on the types and functions of the program at hand, for the walks.
-/
import Derived.Test.YtajbjhcnppiloaaNest
import Derived.Test.YtajbjhcnppiloaaMrow
import Derived.Test.YtajbjhcnppiloaaFl
import Derived.Test.YtajbjhcnppiloaaProg
import Derived.Laws.StructEq
import Derived.WalkKit
namespace Go.Proofs.Ytajbjhcnppiloaa
open Go.RowKit
theorem g_mixed : Try.prog.follows .mixedOrders = true := by kernel_rfl
theorem to1 : TOne Try.prog 1 := fun _ => by kernel_rfl
theorem ts1 : TSize Try.prog 1 1 := fun _ => by kernel_rfl
theorem to2 : TOne Try.prog 2 := fun _ => by kernel_rfl
theorem ts2 : TSize Try.prog 2 1 := fun _ => by kernel_rfl
def E2 : En (Int) := (En.int .i64)
abbrev R2 : Rep (Int) := Rep.fl E2
theorem tn2 : Try.prog.underlying 2 = some (.int .i64) := by kernel_rfl
theorem to3 : TOne Try.prog 3 := fun _ => by kernel_rfl
theorem ts3 : TSize Try.prog 3 1 := fun _ => by kernel_rfl
def E3 : En (Int) := (En.int .i64)
abbrev R3 : Rep (Int) := Rep.fl E3
theorem tn3 : Try.prog.underlying 3 = some (.int .i64) := by kernel_rfl
theorem to4 : TOne Try.prog 4 := fun _ => by kernel_rfl
theorem ts4 : TSize Try.prog 4 1 := fun _ => by kernel_rfl
def E4 : En (Bool) := En.bool
abbrev R4 : Rep (Bool) := Rep.fl E4
theorem tb4 : Try.prog.underlying 4 = some .bool := by kernel_rfl
theorem to5 : TOne Try.prog 5 := fun _ => by kernel_rfl
theorem ts5 : TSize Try.prog 5 1 := fun _ => by kernel_rfl
def E5 : En (Int) := (En.int .u8)
abbrev R5 : Rep (Int) := Rep.fl E5
theorem tn5 : Try.prog.underlying 5 = some (.int .u8) := by kernel_rfl
theorem to6 : TOne Try.prog 6 := fun _ => by kernel_rfl
theorem ts6 : TSize Try.prog 6 1 := fun _ => by kernel_rfl
def E6 : En (Int) := (En.int .u8)
abbrev R6 : Rep (Int) := Rep.fl E6
theorem tn6 : Try.prog.underlying 6 = some (.int .u8) := by kernel_rfl
theorem ta7 : TAgg Try.prog 7 4 := fun _ => ⟨by kernel_rfl, by kernel_rfl⟩
theorem ts7 : TSize Try.prog 7 4 := fun _ => by kernel_rfl
def E7 : En (Int × Int × Bool × Int) := (En.pr (En.int .i64) (En.pr (En.int .i64) (En.pr En.bool (En.int .u8))))
abbrev R7 : Rep (Int × Int × Bool × Int) := Rep.fl E7
theorem fo7_0 : FOff Try.prog 7 0 0 := fun _ _ => by kernel_rfl
theorem fo7_1 : FOff Try.prog 7 1 1 := fun _ _ => by kernel_rfl
theorem fo7_2 : FOff Try.prog 7 2 2 := fun _ _ => by kernel_rfl
theorem fo7_3 : FOff Try.prog 7 3 3 := fun _ _ => by kernel_rfl
theorem ta8 : TAgg Try.prog 8 4 := fun _ => ⟨by kernel_rfl, by kernel_rfl⟩
theorem ts8 : TSize Try.prog 8 4 := fun _ => by kernel_rfl
def E8 : En (Int × Int × Bool × Int) := (En.pr (En.int .i64) (En.pr (En.int .i64) (En.pr En.bool (En.int .u8))))
abbrev R8 : Rep (Int × Int × Bool × Int) := Rep.fl E8
theorem fo8_0 : FOff Try.prog 8 0 0 := fun _ _ => by kernel_rfl
theorem fo8_1 : FOff Try.prog 8 1 1 := fun _ _ => by kernel_rfl
theorem fo8_2 : FOff Try.prog 8 2 2 := fun _ _ => by kernel_rfl
theorem fo8_3 : FOff Try.prog 8 3 3 := fun _ _ => by kernel_rfl
theorem to9 : TOne Try.prog 9 := fun _ => by kernel_rfl
theorem ts9 : TSize Try.prog 9 1 := fun _ => by kernel_rfl
def E9 : En (ByteArray) := En.str
abbrev R9 : Rep (ByteArray) := Rep.fl E9
theorem to10 : TOne Try.prog 10 := fun _ => by kernel_rfl
theorem ts10 : TSize Try.prog 10 1 := fun _ => by kernel_rfl
def E10 : En (ByteArray) := En.str
abbrev R10 : Rep (ByteArray) := Rep.fl E10
theorem to11 : TOne Try.prog 11 := fun _ => by kernel_rfl
theorem ts11 : TSize Try.prog 11 1 := fun _ => by kernel_rfl
def E11 : En (ByteArray) := En.str
abbrev R11 : Rep (ByteArray) := Rep.fl E11
theorem to12 : TOne Try.prog 12 := fun _ => by kernel_rfl
theorem ts12 : TSize Try.prog 12 1 := fun _ => by kernel_rfl
def E12 : En (Int) := (En.int .u64)
abbrev R12 : Rep (Int) := Rep.fl E12
theorem tn12 : Try.prog.underlying 12 = some (.int .u64) := by kernel_rfl
theorem ta13 : TAgg Try.prog 13 2 := fun _ => ⟨by kernel_rfl, by kernel_rfl⟩
theorem ts13 : TSize Try.prog 13 2 := fun _ => by kernel_rfl
def E13 : En (ByteArray × Int) := (En.pr En.str (En.int .u64))
abbrev R13 : Rep (ByteArray × Int) := Rep.fl E13
theorem fo13_0 : FOff Try.prog 13 0 0 := fun _ _ => by kernel_rfl
theorem fo13_1 : FOff Try.prog 13 1 1 := fun _ _ => by kernel_rfl
theorem ta14 : TAgg Try.prog 14 2 := fun _ => ⟨by kernel_rfl, by kernel_rfl⟩
theorem ts14 : TSize Try.prog 14 2 := fun _ => by kernel_rfl
def E14 : En (ByteArray × Int) := (En.pr En.str (En.int .u64))
abbrev R14 : Rep (ByteArray × Int) := Rep.fl E14
theorem fo14_0 : FOff Try.prog 14 0 0 := fun _ _ => by kernel_rfl
theorem fo14_1 : FOff Try.prog 14 1 1 := fun _ _ => by kernel_rfl
theorem to15 : TOne Try.prog 15 := fun _ => by kernel_rfl
theorem ts15 : TSize Try.prog 15 1 := fun _ => by kernel_rfl
theorem to16 : TOne Try.prog 16 := fun _ => by kernel_rfl
theorem ts16 : TSize Try.prog 16 1 := fun _ => by kernel_rfl
theorem to17 : TOne Try.prog 17 := fun _ => by kernel_rfl
theorem ts17 : TSize Try.prog 17 1 := fun _ => by kernel_rfl
theorem ta18 : TAgg Try.prog 18 1 := fun _ => ⟨by kernel_rfl, by kernel_rfl⟩
theorem ts18 : TSize Try.prog 18 1 := fun _ => by kernel_rfl
theorem fo18_0 : FOff Try.prog 18 0 0 := fun _ _ => by kernel_rfl
theorem ta19 : TAgg Try.prog 19 1 := fun _ => ⟨by kernel_rfl, by kernel_rfl⟩
theorem ts19 : TSize Try.prog 19 1 := fun _ => by kernel_rfl
theorem fo19_0 : FOff Try.prog 19 0 0 := fun _ _ => by kernel_rfl
theorem to21 : TOne Try.prog 21 := fun _ => by kernel_rfl
theorem ts21 : TSize Try.prog 21 1 := fun _ => by kernel_rfl
def E21 : En (Int) := (En.int .i32)
abbrev R21 : Rep (Int) := Rep.fl E21
theorem tn21 : Try.prog.underlying 21 = some (.int .i32) := by kernel_rfl
theorem to22 : TOne Try.prog 22 := fun _ => by kernel_rfl
theorem ts22 : TSize Try.prog 22 1 := fun _ => by kernel_rfl
def E26 : En ((Int × Int) × (Int × Int)) := (En.pr (En.pr (En.int .i64) (En.int .i64)) (En.pr (En.int .i64) (En.int .i64)))
abbrev R26 : Rep ((Int × Int) × (Int × Int)) := Rep.fl E26
abbrev R22 : Rep (List ((Int × Int) × (Int × Int))) := Rep.sl R26
abbrev X22 : Ex R22 (Option Addr × Nat) := Ex.sl R26
theorem tl22 : TSlice Try.prog 22 4 := ⟨26, by kernel_rfl, fun _ => by kernel_rfl⟩
theorem tu22 : Try.prog.underlying 22 = some (.slice 26) := by kernel_rfl
theorem tp22 : TApp Try.prog 22 26 4 32 := tapp_of (z := .agg #[.int .i64 0, .int .i64 0, .int .i64 0, .int .i64 0]) (by kernel_rfl) (by kernel_rfl) (by kernel_rfl) (by decide)
theorem ta23 : TAgg Try.prog 23 2 := fun _ => ⟨by kernel_rfl, by kernel_rfl⟩
theorem ts23 : TSize Try.prog 23 2 := fun _ => by kernel_rfl
def E23 : En (Int × Int) := (En.pr (En.int .i64) (En.int .i64))
abbrev R23 : Rep (Int × Int) := Rep.fl E23
theorem fo23_0 : FOff Try.prog 23 0 0 := fun _ _ => by kernel_rfl
theorem fo23_1 : FOff Try.prog 23 1 1 := fun _ _ => by kernel_rfl
theorem se23 (x0 x1 y0 y1 : Int) (w : World) : (binOp .eql 23 (.agg #[.int .i64 x0, .int .i64 x1]) (.agg #[.int .i64 y0, .int .i64 y1])).run Try.prog w = .ok (.bool (decide ((x0, x1) = (y0, y1)))) w := by
  go_simp
  by_cases h0 : x0 = y0 <;> by_cases h1 : x1 = y1 <;> simp [h0, h1]
theorem sn23 (x0 x1 y0 y1 : Int) (w : World) : (binOp .neq 23 (.agg #[.int .i64 x0, .int .i64 x1]) (.agg #[.int .i64 y0, .int .i64 y1])).run Try.prog w = .ok (.bool (!decide ((x0, x1) = (y0, y1)))) w := by
  go_simp
  by_cases h0 : x0 = y0 <;> by_cases h1 : x1 = y1 <;> simp [h0, h1]
theorem sg23 : TGuard Try.prog 23 := fun op x y xs ys w => run_eqGuard_agg w op 23 x y xs ys (by kernel_rfl)
theorem ta24 : TAgg Try.prog 24 2 := fun _ => ⟨by kernel_rfl, by kernel_rfl⟩
theorem ts24 : TSize Try.prog 24 2 := fun _ => by kernel_rfl
def E24 : En (Int × Int) := (En.pr (En.int .i64) (En.int .i64))
abbrev R24 : Rep (Int × Int) := Rep.fl E24
theorem fo24_0 : FOff Try.prog 24 0 0 := fun _ _ => by kernel_rfl
theorem fo24_1 : FOff Try.prog 24 1 1 := fun _ _ => by kernel_rfl
theorem se24 (x0 x1 y0 y1 : Int) (w : World) : (binOp .eql 24 (.agg #[.int .i64 x0, .int .i64 x1]) (.agg #[.int .i64 y0, .int .i64 y1])).run Try.prog w = .ok (.bool (decide ((x0, x1) = (y0, y1)))) w := by
  go_simp
  by_cases h0 : x0 = y0 <;> by_cases h1 : x1 = y1 <;> simp [h0, h1]
theorem sn24 (x0 x1 y0 y1 : Int) (w : World) : (binOp .neq 24 (.agg #[.int .i64 x0, .int .i64 x1]) (.agg #[.int .i64 y0, .int .i64 y1])).run Try.prog w = .ok (.bool (!decide ((x0, x1) = (y0, y1)))) w := by
  go_simp
  by_cases h0 : x0 = y0 <;> by_cases h1 : x1 = y1 <;> simp [h0, h1]
theorem sg24 : TGuard Try.prog 24 := fun op x y xs ys w => run_eqGuard_agg w op 24 x y xs ys (by kernel_rfl)
theorem ta25 : TAgg Try.prog 25 4 := fun _ => ⟨by kernel_rfl, by kernel_rfl⟩
theorem ts25 : TSize Try.prog 25 4 := fun _ => by kernel_rfl
def E25 : En ((Int × Int) × (Int × Int)) := (En.pr (En.pr (En.int .i64) (En.int .i64)) (En.pr (En.int .i64) (En.int .i64)))
abbrev R25 : Rep ((Int × Int) × (Int × Int)) := Rep.fl E25
theorem fo25_0 : FOff Try.prog 25 0 0 := fun _ _ => by kernel_rfl
theorem fo25_1 : FOff Try.prog 25 1 2 := fun _ _ => by kernel_rfl
theorem se25 (x0 x1 x2 x3 y0 y1 y2 y3 : Int) (w : World) : (binOp .eql 25 (.agg #[.int .i64 x0, .int .i64 x1, .int .i64 x2, .int .i64 x3]) (.agg #[.int .i64 y0, .int .i64 y1, .int .i64 y2, .int .i64 y3])).run Try.prog w = .ok (.bool (decide (((x0, x1), (x2, x3)) = ((y0, y1), (y2, y3))))) w := by
  go_simp
  by_cases h0 : x0 = y0 <;> by_cases h1 : x1 = y1 <;> by_cases h2 : x2 = y2 <;> by_cases h3 : x3 = y3 <;> simp [h0, h1, h2, h3]
theorem sn25 (x0 x1 x2 x3 y0 y1 y2 y3 : Int) (w : World) : (binOp .neq 25 (.agg #[.int .i64 x0, .int .i64 x1, .int .i64 x2, .int .i64 x3]) (.agg #[.int .i64 y0, .int .i64 y1, .int .i64 y2, .int .i64 y3])).run Try.prog w = .ok (.bool (!decide (((x0, x1), (x2, x3)) = ((y0, y1), (y2, y3))))) w := by
  go_simp
  by_cases h0 : x0 = y0 <;> by_cases h1 : x1 = y1 <;> by_cases h2 : x2 = y2 <;> by_cases h3 : x3 = y3 <;> simp [h0, h1, h2, h3]
theorem sg25 : TGuard Try.prog 25 := fun op x y xs ys w => run_eqGuard_agg w op 25 x y xs ys (by kernel_rfl)
theorem ta26 : TAgg Try.prog 26 4 := fun _ => ⟨by kernel_rfl, by kernel_rfl⟩
theorem ts26 : TSize Try.prog 26 4 := fun _ => by kernel_rfl
theorem fo26_0 : FOff Try.prog 26 0 0 := fun _ _ => by kernel_rfl
theorem fo26_1 : FOff Try.prog 26 1 2 := fun _ _ => by kernel_rfl
theorem se26 (x0 x1 x2 x3 y0 y1 y2 y3 : Int) (w : World) : (binOp .eql 26 (.agg #[.int .i64 x0, .int .i64 x1, .int .i64 x2, .int .i64 x3]) (.agg #[.int .i64 y0, .int .i64 y1, .int .i64 y2, .int .i64 y3])).run Try.prog w = .ok (.bool (decide (((x0, x1), (x2, x3)) = ((y0, y1), (y2, y3))))) w := by
  go_simp
  by_cases h0 : x0 = y0 <;> by_cases h1 : x1 = y1 <;> by_cases h2 : x2 = y2 <;> by_cases h3 : x3 = y3 <;> simp [h0, h1, h2, h3]
theorem sn26 (x0 x1 x2 x3 y0 y1 y2 y3 : Int) (w : World) : (binOp .neq 26 (.agg #[.int .i64 x0, .int .i64 x1, .int .i64 x2, .int .i64 x3]) (.agg #[.int .i64 y0, .int .i64 y1, .int .i64 y2, .int .i64 y3])).run Try.prog w = .ok (.bool (!decide (((x0, x1), (x2, x3)) = ((y0, y1), (y2, y3))))) w := by
  go_simp
  by_cases h0 : x0 = y0 <;> by_cases h1 : x1 = y1 <;> by_cases h2 : x2 = y2 <;> by_cases h3 : x3 = y3 <;> simp [h0, h1, h2, h3]
theorem sg26 : TGuard Try.prog 26 := fun op x y xs ys w => run_eqGuard_agg w op 26 x y xs ys (by kernel_rfl)
theorem to27 : TOne Try.prog 27 := fun _ => by kernel_rfl
theorem ts27 : TSize Try.prog 27 1 := fun _ => by kernel_rfl
theorem to28 : TOne Try.prog 28 := fun _ => by kernel_rfl
theorem ts28 : TSize Try.prog 28 1 := fun _ => by kernel_rfl
theorem to29 : TOne Try.prog 29 := fun _ => by kernel_rfl
theorem ts29 : TSize Try.prog 29 1 := fun _ => by kernel_rfl
theorem to30 : TOne Try.prog 30 := fun _ => by kernel_rfl
theorem ts30 : TSize Try.prog 30 1 := fun _ => by kernel_rfl
def E35 : En (Int × Int) := (En.pr (En.int .i64) (En.int .i64))
abbrev R35 : Rep (Int × Int) := Rep.fl E35
abbrev R30 : Rep (List (Int × Int)) := Rep.sl R35
abbrev X30 : Ex R30 (Option Addr × Nat) := Ex.sl R35
theorem tl30 : TSlice Try.prog 30 2 := ⟨35, by kernel_rfl, fun _ => by kernel_rfl⟩
theorem tu30 : Try.prog.underlying 30 = some (.slice 35) := by kernel_rfl
theorem tp30 : TApp Try.prog 30 35 2 16 := tapp_of (z := .agg #[.int .i64 0, .int .i64 0]) (by kernel_rfl) (by kernel_rfl) (by kernel_rfl) (by decide)
theorem to31 : TOne Try.prog 31 := fun _ => by kernel_rfl
theorem ts31 : TSize Try.prog 31 1 := fun _ => by kernel_rfl
theorem to32 : TOne Try.prog 32 := fun _ => by kernel_rfl
theorem ts32 : TSize Try.prog 32 1 := fun _ => by kernel_rfl
theorem to33 : TOne Try.prog 33 := fun _ => by kernel_rfl
theorem ts33 : TSize Try.prog 33 1 := fun _ => by kernel_rfl
abbrev R33 : Rep (List Int) := Rep.sl R3
abbrev X33 : Ex R33 (Option Addr × Nat) := Ex.sl R3
theorem tl33 : TSlice Try.prog 33 1 := ⟨3, by kernel_rfl, fun _ => by kernel_rfl⟩
theorem tu33 : Try.prog.underlying 33 = some (.slice 3) := by kernel_rfl
theorem tp33 : TApp Try.prog 33 3 1 8 := tapp_of (z := .int .i64 0) (by kernel_rfl) (by kernel_rfl) (by kernel_rfl) (by decide)
theorem to34 : TOne Try.prog 34 := fun _ => by kernel_rfl
theorem ts34 : TSize Try.prog 34 1 := fun _ => by kernel_rfl
theorem ta35 : TAgg Try.prog 35 2 := fun _ => ⟨by kernel_rfl, by kernel_rfl⟩
theorem ts35 : TSize Try.prog 35 2 := fun _ => by kernel_rfl
theorem tr35 : Try.prog.underlying 35 = some (.array 2 3) := by kernel_rfl
theorem se35 (x0 x1 y0 y1 : Int) (w : World) : (binOp .eql 35 (.agg #[.int .i64 x0, .int .i64 x1]) (.agg #[.int .i64 y0, .int .i64 y1])).run Try.prog w = .ok (.bool (decide ((x0, x1) = (y0, y1)))) w := by
  refine bin_eql (b := decide ((x0, x1) = (y0, y1))) ?_
  rw [run_eqA (n := 2) 9999 _ _ (by kernel_rfl) (fun _ => by kernel_rfl : TSize Try.prog 3 1) w]
  have k3 : ∀ (d : Nat) (x y : Int) (w : World), (Op.equalIn (d + 1) 3 (.int .i64 x) (.int .i64 y)).run Try.prog w = .ok (decide (x = y)) w := fun d x y w => eq_int (by kernel_rfl) d x y
  simp [go_sem, eqA, List.range_succ, k3]
  by_cases h0 : x0 = y0 <;> by_cases h1 : x1 = y1 <;> simp [h0, h1]
theorem sn35 (x0 x1 y0 y1 : Int) (w : World) : (binOp .neq 35 (.agg #[.int .i64 x0, .int .i64 x1]) (.agg #[.int .i64 y0, .int .i64 y1])).run Try.prog w = .ok (.bool (!decide ((x0, x1) = (y0, y1)))) w := by
  refine bin_neq (b := decide ((x0, x1) = (y0, y1))) ?_
  rw [run_eqA (n := 2) 9999 _ _ (by kernel_rfl) (fun _ => by kernel_rfl : TSize Try.prog 3 1) w]
  have k3 : ∀ (d : Nat) (x y : Int) (w : World), (Op.equalIn (d + 1) 3 (.int .i64 x) (.int .i64 y)).run Try.prog w = .ok (decide (x = y)) w := fun d x y w => eq_int (by kernel_rfl) d x y
  simp [go_sem, eqA, List.range_succ, k3]
  by_cases h0 : x0 = y0 <;> by_cases h1 : x1 = y1 <;> simp [h0, h1]
theorem sg35 : TGuard Try.prog 35 := fun op x y xs ys w => run_eqGuard_agg w op 35 x y xs ys (by kernel_rfl)
theorem to36 : TOne Try.prog 36 := fun _ => by kernel_rfl
theorem ts36 : TSize Try.prog 36 1 := fun _ => by kernel_rfl
theorem to37 : TOne Try.prog 37 := fun _ => by kernel_rfl
theorem ts37 : TSize Try.prog 37 1 := fun _ => by kernel_rfl
theorem to38 : TOne Try.prog 38 := fun _ => by kernel_rfl
theorem ts38 : TSize Try.prog 38 1 := fun _ => by kernel_rfl
theorem to39 : TOne Try.prog 39 := fun _ => by kernel_rfl
theorem ts39 : TSize Try.prog 39 1 := fun _ => by kernel_rfl
theorem to40 : TOne Try.prog 40 := fun _ => by kernel_rfl
theorem ts40 : TSize Try.prog 40 1 := fun _ => by kernel_rfl
def E40 : En (Int) := (En.int .u64)
abbrev R40 : Rep (Int) := Rep.fl E40
theorem tn40 : Try.prog.underlying 40 = some (.int .u64) := by kernel_rfl
theorem to41 : TOne Try.prog 41 := fun _ => by kernel_rfl
theorem ts41 : TSize Try.prog 41 1 := fun _ => by kernel_rfl
theorem to42 : TOne Try.prog 42 := fun _ => by kernel_rfl
theorem ts42 : TSize Try.prog 42 1 := fun _ => by kernel_rfl
theorem ta43 : TAgg Try.prog 43 2 := fun _ => ⟨by kernel_rfl, by kernel_rfl⟩
theorem ts43 : TSize Try.prog 43 2 := fun _ => by kernel_rfl
def E43 : En (Int × Int) := (En.pr (En.int .i64) (En.int .i64))
abbrev R43 : Rep (Int × Int) := Rep.fl E43
theorem fo43_0 : FOff Try.prog 43 0 0 := fun _ _ => by kernel_rfl
theorem fo43_1 : FOff Try.prog 43 1 1 := fun _ _ => by kernel_rfl
theorem se43 (x0 x1 y0 y1 : Int) (w : World) : (binOp .eql 43 (.agg #[.int .i64 x0, .int .i64 x1]) (.agg #[.int .i64 y0, .int .i64 y1])).run Try.prog w = .ok (.bool (decide ((x0, x1) = (y0, y1)))) w := by
  go_simp
  by_cases h0 : x0 = y0 <;> by_cases h1 : x1 = y1 <;> simp [h0, h1]
theorem sn43 (x0 x1 y0 y1 : Int) (w : World) : (binOp .neq 43 (.agg #[.int .i64 x0, .int .i64 x1]) (.agg #[.int .i64 y0, .int .i64 y1])).run Try.prog w = .ok (.bool (!decide ((x0, x1) = (y0, y1)))) w := by
  go_simp
  by_cases h0 : x0 = y0 <;> by_cases h1 : x1 = y1 <;> simp [h0, h1]
theorem sg43 : TGuard Try.prog 43 := fun op x y xs ys w => run_eqGuard_agg w op 43 x y xs ys (by kernel_rfl)
theorem ta44 : TAgg Try.prog 44 4 := fun _ => ⟨by kernel_rfl, by kernel_rfl⟩
theorem ts44 : TSize Try.prog 44 4 := fun _ => by kernel_rfl
def E44 : En ((Int × Int) × (Int × Int)) := (En.pr (En.pr (En.int .i64) (En.int .i64)) (En.pr (En.int .i64) (En.int .i64)))
abbrev R44 : Rep ((Int × Int) × (Int × Int)) := Rep.fl E44
theorem fo44_0 : FOff Try.prog 44 0 0 := fun _ _ => by kernel_rfl
theorem fo44_1 : FOff Try.prog 44 1 2 := fun _ _ => by kernel_rfl
theorem se44 (x0 x1 x2 x3 y0 y1 y2 y3 : Int) (w : World) : (binOp .eql 44 (.agg #[.int .i64 x0, .int .i64 x1, .int .i64 x2, .int .i64 x3]) (.agg #[.int .i64 y0, .int .i64 y1, .int .i64 y2, .int .i64 y3])).run Try.prog w = .ok (.bool (decide (((x0, x1), (x2, x3)) = ((y0, y1), (y2, y3))))) w := by
  go_simp
  by_cases h0 : x0 = y0 <;> by_cases h1 : x1 = y1 <;> by_cases h2 : x2 = y2 <;> by_cases h3 : x3 = y3 <;> simp [h0, h1, h2, h3]
theorem sn44 (x0 x1 x2 x3 y0 y1 y2 y3 : Int) (w : World) : (binOp .neq 44 (.agg #[.int .i64 x0, .int .i64 x1, .int .i64 x2, .int .i64 x3]) (.agg #[.int .i64 y0, .int .i64 y1, .int .i64 y2, .int .i64 y3])).run Try.prog w = .ok (.bool (!decide (((x0, x1), (x2, x3)) = ((y0, y1), (y2, y3))))) w := by
  go_simp
  by_cases h0 : x0 = y0 <;> by_cases h1 : x1 = y1 <;> by_cases h2 : x2 = y2 <;> by_cases h3 : x3 = y3 <;> simp [h0, h1, h2, h3]
theorem sg44 : TGuard Try.prog 44 := fun op x y xs ys w => run_eqGuard_agg w op 44 x y xs ys (by kernel_rfl)
theorem ta45 : TAgg Try.prog 45 4 := fun _ => ⟨by kernel_rfl, by kernel_rfl⟩
theorem ts45 : TSize Try.prog 45 4 := fun _ => by kernel_rfl
def E45 : En ((Int × Int) × (Int × Int)) := (En.pr (En.pr (En.int .i64) (En.int .i64)) (En.pr (En.int .i64) (En.int .i64)))
abbrev R45 : Rep ((Int × Int) × (Int × Int)) := Rep.fl E45
theorem fo45_0 : FOff Try.prog 45 0 0 := fun _ _ => by kernel_rfl
theorem fo45_1 : FOff Try.prog 45 1 2 := fun _ _ => by kernel_rfl
theorem se45 (x0 x1 x2 x3 y0 y1 y2 y3 : Int) (w : World) : (binOp .eql 45 (.agg #[.int .i64 x0, .int .i64 x1, .int .i64 x2, .int .i64 x3]) (.agg #[.int .i64 y0, .int .i64 y1, .int .i64 y2, .int .i64 y3])).run Try.prog w = .ok (.bool (decide (((x0, x1), (x2, x3)) = ((y0, y1), (y2, y3))))) w := by
  go_simp
  by_cases h0 : x0 = y0 <;> by_cases h1 : x1 = y1 <;> by_cases h2 : x2 = y2 <;> by_cases h3 : x3 = y3 <;> simp [h0, h1, h2, h3]
theorem sn45 (x0 x1 x2 x3 y0 y1 y2 y3 : Int) (w : World) : (binOp .neq 45 (.agg #[.int .i64 x0, .int .i64 x1, .int .i64 x2, .int .i64 x3]) (.agg #[.int .i64 y0, .int .i64 y1, .int .i64 y2, .int .i64 y3])).run Try.prog w = .ok (.bool (!decide (((x0, x1), (x2, x3)) = ((y0, y1), (y2, y3))))) w := by
  go_simp
  by_cases h0 : x0 = y0 <;> by_cases h1 : x1 = y1 <;> by_cases h2 : x2 = y2 <;> by_cases h3 : x3 = y3 <;> simp [h0, h1, h2, h3]
theorem sg45 : TGuard Try.prog 45 := fun op x y xs ys w => run_eqGuard_agg w op 45 x y xs ys (by kernel_rfl)
theorem to46 : TOne Try.prog 46 := fun _ => by kernel_rfl
theorem ts46 : TSize Try.prog 46 1 := fun _ => by kernel_rfl
theorem to47 : TOne Try.prog 47 := fun _ => by kernel_rfl
theorem ts47 : TSize Try.prog 47 1 := fun _ => by kernel_rfl
theorem to49 : TOne Try.prog 49 := fun _ => by kernel_rfl
theorem ts49 : TSize Try.prog 49 1 := fun _ => by kernel_rfl
theorem to50 : TOne Try.prog 50 := fun _ => by kernel_rfl
theorem ts50 : TSize Try.prog 50 1 := fun _ => by kernel_rfl
theorem to51 : TOne Try.prog 51 := fun _ => by kernel_rfl
theorem ts51 : TSize Try.prog 51 1 := fun _ => by kernel_rfl
theorem to52 : TOne Try.prog 52 := fun _ => by kernel_rfl
theorem ts52 : TSize Try.prog 52 1 := fun _ => by kernel_rfl
theorem to53 : TOne Try.prog 53 := fun _ => by kernel_rfl
theorem ts53 : TSize Try.prog 53 1 := fun _ => by kernel_rfl
abbrev R53 : Rep (List (Int × Int)) := Rep.sl R24
abbrev X53 : Ex R53 (Option Addr × Nat) := Ex.sl R24
theorem tl53 : TSlice Try.prog 53 2 := ⟨24, by kernel_rfl, fun _ => by kernel_rfl⟩
theorem tu53 : Try.prog.underlying 53 = some (.slice 24) := by kernel_rfl
theorem tp53 : TApp Try.prog 53 24 2 16 := tapp_of (z := .agg #[.int .i64 0, .int .i64 0]) (by kernel_rfl) (by kernel_rfl) (by kernel_rfl) (by decide)
theorem to54 : TOne Try.prog 54 := fun _ => by kernel_rfl
theorem ts54 : TSize Try.prog 54 1 := fun _ => by kernel_rfl
theorem to55 : TOne Try.prog 55 := fun _ => by kernel_rfl
theorem ts55 : TSize Try.prog 55 1 := fun _ => by kernel_rfl
abbrev R55 : Rep (List (Int × Int)) := Rep.sl R43
abbrev X55 : Ex R55 (Option Addr × Nat) := Ex.sl R43
theorem tl55 : TSlice Try.prog 55 2 := ⟨43, by kernel_rfl, fun _ => by kernel_rfl⟩
theorem tu55 : Try.prog.underlying 55 = some (.slice 43) := by kernel_rfl
theorem tp55 : TApp Try.prog 55 43 2 16 := tapp_of (z := .agg #[.int .i64 0, .int .i64 0]) (by kernel_rfl) (by kernel_rfl) (by kernel_rfl) (by decide)
theorem to56 : TOne Try.prog 56 := fun _ => by kernel_rfl
theorem ts56 : TSize Try.prog 56 1 := fun _ => by kernel_rfl
theorem to57 : TOne Try.prog 57 := fun _ => by kernel_rfl
theorem ts57 : TSize Try.prog 57 1 := fun _ => by kernel_rfl
theorem to58 : TOne Try.prog 58 := fun _ => by kernel_rfl
theorem ts58 : TSize Try.prog 58 1 := fun _ => by kernel_rfl
theorem to59 : TOne Try.prog 59 := fun _ => by kernel_rfl
theorem ts59 : TSize Try.prog 59 1 := fun _ => by kernel_rfl
theorem to60 : TOne Try.prog 60 := fun _ => by kernel_rfl
theorem ts60 : TSize Try.prog 60 1 := fun _ => by kernel_rfl
theorem ta61 : TAgg Try.prog 61 3 := fun _ => ⟨by kernel_rfl, by kernel_rfl⟩
theorem ts61 : TSize Try.prog 61 3 := fun _ => by kernel_rfl
theorem fo61_0 : FOff Try.prog 61 0 0 := fun _ _ => by kernel_rfl
theorem fo61_1 : FOff Try.prog 61 1 1 := fun _ _ => by kernel_rfl
theorem fo61_2 : FOff Try.prog 61 2 2 := fun _ _ => by kernel_rfl
theorem ta62 : TAgg Try.prog 62 3 := fun _ => ⟨by kernel_rfl, by kernel_rfl⟩
theorem ts62 : TSize Try.prog 62 3 := fun _ => by kernel_rfl
theorem fo62_0 : FOff Try.prog 62 0 0 := fun _ _ => by kernel_rfl
theorem fo62_1 : FOff Try.prog 62 1 1 := fun _ _ => by kernel_rfl
theorem fo62_2 : FOff Try.prog 62 2 2 := fun _ _ => by kernel_rfl
theorem to63 : TOne Try.prog 63 := fun _ => by kernel_rfl
theorem ts63 : TSize Try.prog 63 1 := fun _ => by kernel_rfl
theorem to64 : TOne Try.prog 64 := fun _ => by kernel_rfl
theorem ts64 : TSize Try.prog 64 1 := fun _ => by kernel_rfl
theorem to65 : TOne Try.prog 65 := fun _ => by kernel_rfl
theorem ts65 : TSize Try.prog 65 1 := fun _ => by kernel_rfl
theorem to66 : TOne Try.prog 66 := fun _ => by kernel_rfl
theorem ts66 : TSize Try.prog 66 1 := fun _ => by kernel_rfl
theorem to67 : TOne Try.prog 67 := fun _ => by kernel_rfl
theorem ts67 : TSize Try.prog 67 1 := fun _ => by kernel_rfl
theorem to68 : TOne Try.prog 68 := fun _ => by kernel_rfl
theorem ts68 : TSize Try.prog 68 1 := fun _ => by kernel_rfl
theorem to69 : TOne Try.prog 69 := fun _ => by kernel_rfl
theorem ts69 : TSize Try.prog 69 1 := fun _ => by kernel_rfl
theorem ta70 : TAgg Try.prog 70 12 := fun _ => ⟨by kernel_rfl, by kernel_rfl⟩
theorem ts70 : TSize Try.prog 70 12 := fun _ => by kernel_rfl
def E70 : En ((Int × Int) × (Int × Int) × (Int × Int) × (Int × Int) × (Int × Int) × (Int × Int)) := (En.pr (En.pr (En.int .i64) (En.int .i64)) (En.pr (En.pr (En.int .i64) (En.int .i64)) (En.pr (En.pr (En.int .i64) (En.int .i64)) (En.pr (En.pr (En.int .i64) (En.int .i64)) (En.pr (En.pr (En.int .i64) (En.int .i64)) (En.pr (En.int .i64) (En.int .i64)))))))
abbrev R70 : Rep ((Int × Int) × (Int × Int) × (Int × Int) × (Int × Int) × (Int × Int) × (Int × Int)) := Rep.fl E70
theorem tr70 : Try.prog.underlying 70 = some (.array 6 24) := by kernel_rfl
theorem to72 : TOne Try.prog 72 := fun _ => by kernel_rfl
theorem ts72 : TSize Try.prog 72 1 := fun _ => by kernel_rfl
theorem to73 : TOne Try.prog 73 := fun _ => by kernel_rfl
theorem ts73 : TSize Try.prog 73 1 := fun _ => by kernel_rfl
theorem to74 : TOne Try.prog 74 := fun _ => by kernel_rfl
theorem ts74 : TSize Try.prog 74 1 := fun _ => by kernel_rfl
def E74 : En (Int) := (En.int .u64)
abbrev R74 : Rep (Int) := Rep.fl E74
theorem tn74 : Try.prog.underlying 74 = some (.int .u64) := by kernel_rfl
theorem to75 : TOne Try.prog 75 := fun _ => by kernel_rfl
theorem ts75 : TSize Try.prog 75 1 := fun _ => by kernel_rfl
theorem to76 : TOne Try.prog 76 := fun _ => by kernel_rfl
theorem ts76 : TSize Try.prog 76 1 := fun _ => by kernel_rfl
theorem to77 : TOne Try.prog 77 := fun _ => by kernel_rfl
theorem ts77 : TSize Try.prog 77 1 := fun _ => by kernel_rfl
theorem to78 : TOne Try.prog 78 := fun _ => by kernel_rfl
theorem ts78 : TSize Try.prog 78 1 := fun _ => by kernel_rfl
theorem to79 : TOne Try.prog 79 := fun _ => by kernel_rfl
theorem ts79 : TSize Try.prog 79 1 := fun _ => by kernel_rfl
theorem to80 : TOne Try.prog 80 := fun _ => by kernel_rfl
theorem ts80 : TSize Try.prog 80 1 := fun _ => by kernel_rfl
theorem to81 : TOne Try.prog 81 := fun _ => by kernel_rfl
theorem ts81 : TSize Try.prog 81 1 := fun _ => by kernel_rfl
theorem to82 : TOne Try.prog 82 := fun _ => by kernel_rfl
theorem ts82 : TSize Try.prog 82 1 := fun _ => by kernel_rfl
theorem ta83 : TAgg Try.prog 83 4 := fun _ => ⟨by kernel_rfl, by kernel_rfl⟩
theorem ts83 : TSize Try.prog 83 4 := fun _ => by kernel_rfl
theorem fo83_0 : FOff Try.prog 83 0 0 := fun _ _ => by kernel_rfl
theorem fo83_1 : FOff Try.prog 83 1 1 := fun _ _ => by kernel_rfl
theorem fo83_2 : FOff Try.prog 83 2 2 := fun _ _ => by kernel_rfl
theorem fo83_3 : FOff Try.prog 83 3 3 := fun _ _ => by kernel_rfl
theorem ta84 : TAgg Try.prog 84 4 := fun _ => ⟨by kernel_rfl, by kernel_rfl⟩
theorem ts84 : TSize Try.prog 84 4 := fun _ => by kernel_rfl
theorem fo84_0 : FOff Try.prog 84 0 0 := fun _ _ => by kernel_rfl
theorem fo84_1 : FOff Try.prog 84 1 1 := fun _ _ => by kernel_rfl
theorem fo84_2 : FOff Try.prog 84 2 2 := fun _ _ => by kernel_rfl
theorem fo84_3 : FOff Try.prog 84 3 3 := fun _ _ => by kernel_rfl
theorem ta85 : TAgg Try.prog 85 0 := fun _ => ⟨by kernel_rfl, by kernel_rfl⟩
theorem ts85 : TSize Try.prog 85 0 := fun _ => by kernel_rfl
theorem tr85 : Try.prog.underlying 85 = some (.array 0 16) := by kernel_rfl
theorem ta86 : TAgg Try.prog 86 0 := fun _ => ⟨by kernel_rfl, by kernel_rfl⟩
theorem ts86 : TSize Try.prog 86 0 := fun _ => by kernel_rfl
theorem ta87 : TAgg Try.prog 87 0 := fun _ => ⟨by kernel_rfl, by kernel_rfl⟩
theorem ts87 : TSize Try.prog 87 0 := fun _ => by kernel_rfl
theorem to88 : TOne Try.prog 88 := fun _ => by kernel_rfl
theorem ts88 : TSize Try.prog 88 1 := fun _ => by kernel_rfl
def E88 : En (Int) := (En.int .u32)
abbrev R88 : Rep (Int) := Rep.fl E88
theorem tn88 : Try.prog.underlying 88 = some (.int .u32) := by kernel_rfl
theorem to89 : TOne Try.prog 89 := fun _ => by kernel_rfl
theorem ts89 : TSize Try.prog 89 1 := fun _ => by kernel_rfl
def E89 : En (Int) := (En.int .u8)
abbrev R89 : Rep (Int) := Rep.fl E89
theorem tn89 : Try.prog.underlying 89 = some (.int .u8) := by kernel_rfl
theorem to90 : TOne Try.prog 90 := fun _ => by kernel_rfl
theorem ts90 : TSize Try.prog 90 1 := fun _ => by kernel_rfl
def E90 : En (Int) := (En.int .u8)
abbrev R90 : Rep (Int) := Rep.fl E90
theorem tn90 : Try.prog.underlying 90 = some (.int .u8) := by kernel_rfl
theorem to91 : TOne Try.prog 91 := fun _ => by kernel_rfl
theorem ts91 : TSize Try.prog 91 1 := fun _ => by kernel_rfl
theorem to92 : TOne Try.prog 92 := fun _ => by kernel_rfl
theorem ts92 : TSize Try.prog 92 1 := fun _ => by kernel_rfl
theorem to93 : TOne Try.prog 93 := fun _ => by kernel_rfl
theorem ts93 : TSize Try.prog 93 1 := fun _ => by kernel_rfl
def E93 : En (Int) := (En.int .i32)
abbrev R93 : Rep (Int) := Rep.fl E93
theorem tn93 : Try.prog.underlying 93 = some (.int .i32) := by kernel_rfl
theorem to94 : TOne Try.prog 94 := fun _ => by kernel_rfl
theorem ts94 : TSize Try.prog 94 1 := fun _ => by kernel_rfl
def E94 : En (Int) := (En.int .i32)
abbrev R94 : Rep (Int) := Rep.fl E94
theorem tn94 : Try.prog.underlying 94 = some (.int .i32) := by kernel_rfl
theorem ta95 : TAgg Try.prog 95 11 := fun _ => ⟨by kernel_rfl, by kernel_rfl⟩
theorem ts95 : TSize Try.prog 95 11 := fun _ => by kernel_rfl
theorem fo95_0 : FOff Try.prog 95 0 0 := fun _ _ => by kernel_rfl
theorem fo95_1 : FOff Try.prog 95 1 1 := fun _ _ => by kernel_rfl
theorem fo95_2 : FOff Try.prog 95 2 2 := fun _ _ => by kernel_rfl
theorem fo95_3 : FOff Try.prog 95 3 3 := fun _ _ => by kernel_rfl
theorem fo95_4 : FOff Try.prog 95 4 4 := fun _ _ => by kernel_rfl
theorem fo95_5 : FOff Try.prog 95 5 5 := fun _ _ => by kernel_rfl
theorem fo95_6 : FOff Try.prog 95 6 6 := fun _ _ => by kernel_rfl
theorem fo95_7 : FOff Try.prog 95 7 7 := fun _ _ => by kernel_rfl
theorem fo95_8 : FOff Try.prog 95 8 8 := fun _ _ => by kernel_rfl
theorem fo95_9 : FOff Try.prog 95 9 9 := fun _ _ => by kernel_rfl
theorem fo95_10 : FOff Try.prog 95 10 10 := fun _ _ => by kernel_rfl
theorem ta96 : TAgg Try.prog 96 11 := fun _ => ⟨by kernel_rfl, by kernel_rfl⟩
theorem ts96 : TSize Try.prog 96 11 := fun _ => by kernel_rfl
theorem fo96_0 : FOff Try.prog 96 0 0 := fun _ _ => by kernel_rfl
theorem fo96_1 : FOff Try.prog 96 1 1 := fun _ _ => by kernel_rfl
theorem fo96_2 : FOff Try.prog 96 2 2 := fun _ _ => by kernel_rfl
theorem fo96_3 : FOff Try.prog 96 3 3 := fun _ _ => by kernel_rfl
theorem fo96_4 : FOff Try.prog 96 4 4 := fun _ _ => by kernel_rfl
theorem fo96_5 : FOff Try.prog 96 5 5 := fun _ _ => by kernel_rfl
theorem fo96_6 : FOff Try.prog 96 6 6 := fun _ _ => by kernel_rfl
theorem fo96_7 : FOff Try.prog 96 7 7 := fun _ _ => by kernel_rfl
theorem fo96_8 : FOff Try.prog 96 8 8 := fun _ _ => by kernel_rfl
theorem fo96_9 : FOff Try.prog 96 9 9 := fun _ _ => by kernel_rfl
theorem fo96_10 : FOff Try.prog 96 10 10 := fun _ _ => by kernel_rfl
def vv35 (x : Int × Int) : Value := .agg #[.int .i64 x.1, .int .i64 x.2]
theorem ko35 : KeyOk Try.prog 35 vv35 :=
  ⟨fun e k w => by
    unfold vv35
    rw [run_checkKey_array (n := 2) e 9999 _ (by kernel_rfl) (fun _ => by kernel_rfl : TSize Try.prog 3 1) w]
    have h3 : ∀ (e : Bool) (d : Nat) (n : Int) (w : World), (Instr.checkKey e (d + 1) 3 (.int .i64 n)).run Try.prog w = .ok () w := fun e d n w => ck_int (by kernel_rfl) e d n
    simp [go_sem, chkA, List.range_succ, h3], fun k k' w => eql_of_bin (se35 k.1 k.2 k'.1 k'.2 w), ⟨.array 2 3, by kernel_rfl, fun k k' => .inl rfl⟩, fun k => by unfold vv35; simp [Instr.sameBits]⟩
theorem tm60 : Try.prog.underlying 60 = some (.map 35 33) := by kernel_rfl
theorem tzv60 : ∀ w, (zeroValue 33).run Try.prog w = .ok (.slice none 0 0) w := zeroValue_of (by kernel_rfl)
def vv3 (x : Int) : Value := .int .i64 x
def vv4 (x : Bool) : Value := .bool x
theorem ko3 : KeyOk Try.prog 3 vv3 := ko_int (by kernel_rfl)
theorem tm67 : Try.prog.underlying 67 = some (.map 3 4) := by kernel_rfl
theorem tzv67 : ∀ w, (zeroValue 4).run Try.prog w = .ok (vv4 false) w := zeroValue_of (by kernel_rfl)
theorem cf2 : CF Try.prog 2 := fun _ _ => by kernel_rfl
theorem cf3 : CF Try.prog 3 := fun _ _ => by kernel_rfl
theorem cf4 : CF Try.prog 4 := fun _ _ => by kernel_rfl
theorem cf5 : CF Try.prog 5 := fun _ _ => by kernel_rfl
theorem cf6 : CF Try.prog 6 := fun _ _ => by kernel_rfl
theorem cf7 : CF Try.prog 7 := fun _ _ => by kernel_rfl
theorem cf8 : CF Try.prog 8 := fun _ _ => by kernel_rfl
theorem cf9 : CF Try.prog 9 := fun _ _ => by kernel_rfl
theorem cf10 : CF Try.prog 10 := fun _ _ => by kernel_rfl
theorem cf11 : CF Try.prog 11 := fun _ _ => by kernel_rfl
theorem cf12 : CF Try.prog 12 := fun _ _ => by kernel_rfl
theorem cf13 : CF Try.prog 13 := fun _ _ => by kernel_rfl
theorem cf14 : CF Try.prog 14 := fun _ _ => by kernel_rfl
theorem cf15 : CF Try.prog 15 := fun _ _ => by kernel_rfl
theorem cf16 : CF Try.prog 16 := fun _ _ => by kernel_rfl
theorem cf17 : CF Try.prog 17 := fun _ _ => by kernel_rfl
theorem cf18 : CF Try.prog 18 := fun _ _ => by kernel_rfl
theorem cf19 : CF Try.prog 19 := fun _ _ => by kernel_rfl
theorem cf20 : CF Try.prog 20 := fun _ _ => by kernel_rfl
theorem cf21 : CF Try.prog 21 := fun _ _ => by kernel_rfl
theorem cf22 : CF Try.prog 22 := fun _ _ => by kernel_rfl
theorem cf23 : CF Try.prog 23 := fun _ _ => by kernel_rfl
theorem cf24 : CF Try.prog 24 := fun _ _ => by kernel_rfl
theorem cf25 : CF Try.prog 25 := fun _ _ => by kernel_rfl
theorem cf26 : CF Try.prog 26 := fun _ _ => by kernel_rfl
theorem cf27 : CF Try.prog 27 := fun _ _ => by kernel_rfl
theorem cf28 : CF Try.prog 28 := fun _ _ => by kernel_rfl
theorem cf29 : CF Try.prog 29 := fun _ _ => by kernel_rfl
theorem cf30 : CF Try.prog 30 := fun _ _ => by kernel_rfl
theorem cf31 : CF Try.prog 31 := fun _ _ => by kernel_rfl
theorem cf32 : CF Try.prog 32 := fun _ _ => by kernel_rfl
theorem cf33 : CF Try.prog 33 := fun _ _ => by kernel_rfl
theorem cf34 : CF Try.prog 34 := fun _ _ => by kernel_rfl
theorem cf35 : CF Try.prog 35 := fun _ _ => by kernel_rfl
theorem cf36 : CF Try.prog 36 := fun _ _ => by kernel_rfl
theorem cf37 : CF Try.prog 37 := fun _ _ => by kernel_rfl
theorem cf38 : CF Try.prog 38 := fun _ _ => by kernel_rfl
theorem cf39 : CF Try.prog 39 := fun _ _ => by kernel_rfl
end Go.Proofs.Ytajbjhcnppiloaa
