/-
  Closed facts on the types and functions of the program at hand, for the walks.
-/
import Derived.Test.YtefhfbefgeadaaaRow
import Derived.Test.YtefhfbefgeadaaaProg
import Derived.Laws.StructEq
import Derived.WalkKit
namespace Go.Proofs.Ytefhfbefgeadaaa
open Go.RowKit
theorem g_mixed : Try.prog.follows .mixedOrders = true := by kernel_rfl
theorem to1 : TOne Try.prog 1 := fun _ => by kernel_rfl
theorem ts1 : TSize Try.prog 1 1 := fun _ => by kernel_rfl
theorem to2 : TOne Try.prog 2 := fun _ => by kernel_rfl
theorem ts2 : TSize Try.prog 2 1 := fun _ => by kernel_rfl
theorem to3 : TOne Try.prog 3 := fun _ => by kernel_rfl
theorem ts3 : TSize Try.prog 3 1 := fun _ => by kernel_rfl
theorem to4 : TOne Try.prog 4 := fun _ => by kernel_rfl
theorem ts4 : TSize Try.prog 4 1 := fun _ => by kernel_rfl
theorem tb4 : Try.prog.underlying 4 = some .bool := by kernel_rfl
theorem to5 : TOne Try.prog 5 := fun _ => by kernel_rfl
theorem ts5 : TSize Try.prog 5 1 := fun _ => by kernel_rfl
theorem to6 : TOne Try.prog 6 := fun _ => by kernel_rfl
theorem ts6 : TSize Try.prog 6 1 := fun _ => by kernel_rfl
theorem ta7 : TAgg Try.prog 7 4 := fun _ => ⟨by kernel_rfl, by kernel_rfl⟩
theorem ts7 : TSize Try.prog 7 4 := fun _ => by kernel_rfl
theorem fo7_0 : FOff Try.prog 7 0 0 := fun _ _ => by kernel_rfl
theorem fo7_1 : FOff Try.prog 7 1 1 := fun _ _ => by kernel_rfl
theorem fo7_2 : FOff Try.prog 7 2 2 := fun _ _ => by kernel_rfl
theorem fo7_3 : FOff Try.prog 7 3 3 := fun _ _ => by kernel_rfl
theorem ta8 : TAgg Try.prog 8 4 := fun _ => ⟨by kernel_rfl, by kernel_rfl⟩
theorem ts8 : TSize Try.prog 8 4 := fun _ => by kernel_rfl
theorem fo8_0 : FOff Try.prog 8 0 0 := fun _ _ => by kernel_rfl
theorem fo8_1 : FOff Try.prog 8 1 1 := fun _ _ => by kernel_rfl
theorem fo8_2 : FOff Try.prog 8 2 2 := fun _ _ => by kernel_rfl
theorem fo8_3 : FOff Try.prog 8 3 3 := fun _ _ => by kernel_rfl
theorem to9 : TOne Try.prog 9 := fun _ => by kernel_rfl
theorem ts9 : TSize Try.prog 9 1 := fun _ => by kernel_rfl
theorem to10 : TOne Try.prog 10 := fun _ => by kernel_rfl
theorem ts10 : TSize Try.prog 10 1 := fun _ => by kernel_rfl
theorem to11 : TOne Try.prog 11 := fun _ => by kernel_rfl
theorem ts11 : TSize Try.prog 11 1 := fun _ => by kernel_rfl
theorem to12 : TOne Try.prog 12 := fun _ => by kernel_rfl
theorem ts12 : TSize Try.prog 12 1 := fun _ => by kernel_rfl
theorem ta13 : TAgg Try.prog 13 2 := fun _ => ⟨by kernel_rfl, by kernel_rfl⟩
theorem ts13 : TSize Try.prog 13 2 := fun _ => by kernel_rfl
theorem fo13_0 : FOff Try.prog 13 0 0 := fun _ _ => by kernel_rfl
theorem fo13_1 : FOff Try.prog 13 1 1 := fun _ _ => by kernel_rfl
theorem ta14 : TAgg Try.prog 14 2 := fun _ => ⟨by kernel_rfl, by kernel_rfl⟩
theorem ts14 : TSize Try.prog 14 2 := fun _ => by kernel_rfl
theorem fo14_0 : FOff Try.prog 14 0 0 := fun _ _ => by kernel_rfl
theorem fo14_1 : FOff Try.prog 14 1 1 := fun _ _ => by kernel_rfl
theorem to15 : TOne Try.prog 15 := fun _ => by kernel_rfl
theorem ts15 : TSize Try.prog 15 1 := fun _ => by kernel_rfl
theorem to16 : TOne Try.prog 16 := fun _ => by kernel_rfl
theorem ts16 : TSize Try.prog 16 1 := fun _ => by kernel_rfl
theorem to17 : TOne Try.prog 17 := fun _ => by kernel_rfl
theorem ts17 : TSize Try.prog 17 1 := fun _ => by kernel_rfl
theorem ta18 : TAgg Try.prog 18 1 := fun _ => ⟨by kernel_rfl, by kernel_rfl⟩
theorem ts18 : TSize Try.prog 18 1 := fun _ => by kernel_rfl
theorem fo18_0 : FOff Try.prog 18 0 0 := fun _ _ => by kernel_rfl
theorem ta19 : TAgg Try.prog 19 1 := fun _ => ⟨by kernel_rfl, by kernel_rfl⟩
theorem ts19 : TSize Try.prog 19 1 := fun _ => by kernel_rfl
theorem fo19_0 : FOff Try.prog 19 0 0 := fun _ _ => by kernel_rfl
theorem to21 : TOne Try.prog 21 := fun _ => by kernel_rfl
theorem ts21 : TSize Try.prog 21 1 := fun _ => by kernel_rfl
theorem to23 : TOne Try.prog 23 := fun _ => by kernel_rfl
theorem ts23 : TSize Try.prog 23 1 := fun _ => by kernel_rfl
theorem to24 : TOne Try.prog 24 := fun _ => by kernel_rfl
theorem ts24 : TSize Try.prog 24 1 := fun _ => by kernel_rfl
theorem to25 : TOne Try.prog 25 := fun _ => by kernel_rfl
theorem ts25 : TSize Try.prog 25 1 := fun _ => by kernel_rfl
theorem to26 : TOne Try.prog 26 := fun _ => by kernel_rfl
theorem ts26 : TSize Try.prog 26 1 := fun _ => by kernel_rfl
theorem to27 : TOne Try.prog 27 := fun _ => by kernel_rfl
theorem ts27 : TSize Try.prog 27 1 := fun _ => by kernel_rfl
theorem ta28 : TAgg Try.prog 28 2 := fun _ => ⟨by kernel_rfl, by kernel_rfl⟩
theorem ts28 : TSize Try.prog 28 2 := fun _ => by kernel_rfl
theorem fo28_0 : FOff Try.prog 28 0 0 := fun _ _ => by kernel_rfl
theorem fo28_1 : FOff Try.prog 28 1 1 := fun _ _ => by kernel_rfl
theorem se28 (x0 x1 y0 y1 : Int) (w : World) : (binOp .eql 28 (.agg #[.int .i64 x0, .int .i64 x1]) (.agg #[.int .i64 y0, .int .i64 y1])).run Try.prog w = .ok (.bool (decide ((x0, x1) = (y0, y1)))) w := by
  go_simp
  by_cases h0 : x0 = y0 <;> by_cases h1 : x1 = y1 <;> simp [h0, h1]
theorem sn28 (x0 x1 y0 y1 : Int) (w : World) : (binOp .neq 28 (.agg #[.int .i64 x0, .int .i64 x1]) (.agg #[.int .i64 y0, .int .i64 y1])).run Try.prog w = .ok (.bool (!decide ((x0, x1) = (y0, y1)))) w := by
  go_simp
  by_cases h0 : x0 = y0 <;> by_cases h1 : x1 = y1 <;> simp [h0, h1]
theorem sg28 : TGuard Try.prog 28 := fun op x y xs ys w => run_eqGuard_agg w op 28 x y xs ys (by kernel_rfl)
theorem ta29 : TAgg Try.prog 29 2 := fun _ => ⟨by kernel_rfl, by kernel_rfl⟩
theorem ts29 : TSize Try.prog 29 2 := fun _ => by kernel_rfl
theorem fo29_0 : FOff Try.prog 29 0 0 := fun _ _ => by kernel_rfl
theorem fo29_1 : FOff Try.prog 29 1 1 := fun _ _ => by kernel_rfl
theorem se29 (x0 x1 y0 y1 : Int) (w : World) : (binOp .eql 29 (.agg #[.int .i64 x0, .int .i64 x1]) (.agg #[.int .i64 y0, .int .i64 y1])).run Try.prog w = .ok (.bool (decide ((x0, x1) = (y0, y1)))) w := by
  go_simp
  by_cases h0 : x0 = y0 <;> by_cases h1 : x1 = y1 <;> simp [h0, h1]
theorem sn29 (x0 x1 y0 y1 : Int) (w : World) : (binOp .neq 29 (.agg #[.int .i64 x0, .int .i64 x1]) (.agg #[.int .i64 y0, .int .i64 y1])).run Try.prog w = .ok (.bool (!decide ((x0, x1) = (y0, y1)))) w := by
  go_simp
  by_cases h0 : x0 = y0 <;> by_cases h1 : x1 = y1 <;> simp [h0, h1]
theorem sg29 : TGuard Try.prog 29 := fun op x y xs ys w => run_eqGuard_agg w op 29 x y xs ys (by kernel_rfl)
theorem ta30 : TAgg Try.prog 30 2 := fun _ => ⟨by kernel_rfl, by kernel_rfl⟩
theorem ts30 : TSize Try.prog 30 2 := fun _ => by kernel_rfl
theorem fo30_0 : FOff Try.prog 30 0 0 := fun _ _ => by kernel_rfl
theorem fo30_1 : FOff Try.prog 30 1 1 := fun _ _ => by kernel_rfl
theorem se30 (x0 x1 y0 y1 : Int) (w : World) : (binOp .eql 30 (.agg #[.int .i64 x0, .int .i64 x1]) (.agg #[.int .i64 y0, .int .i64 y1])).run Try.prog w = .ok (.bool (decide ((x0, x1) = (y0, y1)))) w := by
  go_simp
  by_cases h0 : x0 = y0 <;> by_cases h1 : x1 = y1 <;> simp [h0, h1]
theorem sn30 (x0 x1 y0 y1 : Int) (w : World) : (binOp .neq 30 (.agg #[.int .i64 x0, .int .i64 x1]) (.agg #[.int .i64 y0, .int .i64 y1])).run Try.prog w = .ok (.bool (!decide ((x0, x1) = (y0, y1)))) w := by
  go_simp
  by_cases h0 : x0 = y0 <;> by_cases h1 : x1 = y1 <;> simp [h0, h1]
theorem sg30 : TGuard Try.prog 30 := fun op x y xs ys w => run_eqGuard_agg w op 30 x y xs ys (by kernel_rfl)
theorem to31 : TOne Try.prog 31 := fun _ => by kernel_rfl
theorem ts31 : TSize Try.prog 31 1 := fun _ => by kernel_rfl
theorem to32 : TOne Try.prog 32 := fun _ => by kernel_rfl
theorem ts32 : TSize Try.prog 32 1 := fun _ => by kernel_rfl
theorem to33 : TOne Try.prog 33 := fun _ => by kernel_rfl
theorem ts33 : TSize Try.prog 33 1 := fun _ => by kernel_rfl
theorem to34 : TOne Try.prog 34 := fun _ => by kernel_rfl
theorem ts34 : TSize Try.prog 34 1 := fun _ => by kernel_rfl
theorem to35 : TOne Try.prog 35 := fun _ => by kernel_rfl
theorem ts35 : TSize Try.prog 35 1 := fun _ => by kernel_rfl
theorem to36 : TOne Try.prog 36 := fun _ => by kernel_rfl
theorem ts36 : TSize Try.prog 36 1 := fun _ => by kernel_rfl
theorem tl36 : TSlice Try.prog 36 2 := ⟨30, by kernel_rfl, fun _ => by kernel_rfl⟩
theorem tu36 : Try.prog.underlying 36 = some (.slice 30) := by kernel_rfl
theorem tp36 : TApp Try.prog 36 30 2 16 := tapp_of (z := .agg #[.int .i64 0, .int .i64 0]) (by kernel_rfl) (by kernel_rfl) (by kernel_rfl) (by decide)
theorem to37 : TOne Try.prog 37 := fun _ => by kernel_rfl
theorem ts37 : TSize Try.prog 37 1 := fun _ => by kernel_rfl
theorem to38 : TOne Try.prog 38 := fun _ => by kernel_rfl
theorem ts38 : TSize Try.prog 38 1 := fun _ => by kernel_rfl
theorem to39 : TOne Try.prog 39 := fun _ => by kernel_rfl
theorem ts39 : TSize Try.prog 39 1 := fun _ => by kernel_rfl
theorem to40 : TOne Try.prog 40 := fun _ => by kernel_rfl
theorem ts40 : TSize Try.prog 40 1 := fun _ => by kernel_rfl
theorem to41 : TOne Try.prog 41 := fun _ => by kernel_rfl
theorem ts41 : TSize Try.prog 41 1 := fun _ => by kernel_rfl
theorem tl41 : TSlice Try.prog 41 2 := ⟨29, by kernel_rfl, fun _ => by kernel_rfl⟩
theorem tu41 : Try.prog.underlying 41 = some (.slice 29) := by kernel_rfl
theorem tp41 : TApp Try.prog 41 29 2 16 := tapp_of (z := .agg #[.int .i64 0, .int .i64 0]) (by kernel_rfl) (by kernel_rfl) (by kernel_rfl) (by decide)
theorem to43 : TOne Try.prog 43 := fun _ => by kernel_rfl
theorem ts43 : TSize Try.prog 43 1 := fun _ => by kernel_rfl
theorem to44 : TOne Try.prog 44 := fun _ => by kernel_rfl
theorem ts44 : TSize Try.prog 44 1 := fun _ => by kernel_rfl
theorem ta45 : TAgg Try.prog 45 4 := fun _ => ⟨by kernel_rfl, by kernel_rfl⟩
theorem ts45 : TSize Try.prog 45 4 := fun _ => by kernel_rfl
theorem to46 : TOne Try.prog 46 := fun _ => by kernel_rfl
theorem ts46 : TSize Try.prog 46 1 := fun _ => by kernel_rfl
theorem to47 : TOne Try.prog 47 := fun _ => by kernel_rfl
theorem ts47 : TSize Try.prog 47 1 := fun _ => by kernel_rfl
theorem to48 : TOne Try.prog 48 := fun _ => by kernel_rfl
theorem ts48 : TSize Try.prog 48 1 := fun _ => by kernel_rfl
theorem to49 : TOne Try.prog 49 := fun _ => by kernel_rfl
theorem ts49 : TSize Try.prog 49 1 := fun _ => by kernel_rfl
theorem to50 : TOne Try.prog 50 := fun _ => by kernel_rfl
theorem ts50 : TSize Try.prog 50 1 := fun _ => by kernel_rfl
theorem to51 : TOne Try.prog 51 := fun _ => by kernel_rfl
theorem ts51 : TSize Try.prog 51 1 := fun _ => by kernel_rfl
theorem to52 : TOne Try.prog 52 := fun _ => by kernel_rfl
theorem ts52 : TSize Try.prog 52 1 := fun _ => by kernel_rfl
theorem to53 : TOne Try.prog 53 := fun _ => by kernel_rfl
theorem ts53 : TSize Try.prog 53 1 := fun _ => by kernel_rfl
theorem ta54 : TAgg Try.prog 54 4 := fun _ => ⟨by kernel_rfl, by kernel_rfl⟩
theorem ts54 : TSize Try.prog 54 4 := fun _ => by kernel_rfl
theorem fo54_0 : FOff Try.prog 54 0 0 := fun _ _ => by kernel_rfl
theorem fo54_1 : FOff Try.prog 54 1 1 := fun _ _ => by kernel_rfl
theorem fo54_2 : FOff Try.prog 54 2 2 := fun _ _ => by kernel_rfl
theorem fo54_3 : FOff Try.prog 54 3 3 := fun _ _ => by kernel_rfl
theorem ta55 : TAgg Try.prog 55 4 := fun _ => ⟨by kernel_rfl, by kernel_rfl⟩
theorem ts55 : TSize Try.prog 55 4 := fun _ => by kernel_rfl
theorem fo55_0 : FOff Try.prog 55 0 0 := fun _ _ => by kernel_rfl
theorem fo55_1 : FOff Try.prog 55 1 1 := fun _ _ => by kernel_rfl
theorem fo55_2 : FOff Try.prog 55 2 2 := fun _ _ => by kernel_rfl
theorem fo55_3 : FOff Try.prog 55 3 3 := fun _ _ => by kernel_rfl
theorem ta56 : TAgg Try.prog 56 0 := fun _ => ⟨by kernel_rfl, by kernel_rfl⟩
theorem ts56 : TSize Try.prog 56 0 := fun _ => by kernel_rfl
theorem ta57 : TAgg Try.prog 57 0 := fun _ => ⟨by kernel_rfl, by kernel_rfl⟩
theorem ts57 : TSize Try.prog 57 0 := fun _ => by kernel_rfl
theorem ta58 : TAgg Try.prog 58 0 := fun _ => ⟨by kernel_rfl, by kernel_rfl⟩
theorem ts58 : TSize Try.prog 58 0 := fun _ => by kernel_rfl
theorem to59 : TOne Try.prog 59 := fun _ => by kernel_rfl
theorem ts59 : TSize Try.prog 59 1 := fun _ => by kernel_rfl
theorem to60 : TOne Try.prog 60 := fun _ => by kernel_rfl
theorem ts60 : TSize Try.prog 60 1 := fun _ => by kernel_rfl
theorem to61 : TOne Try.prog 61 := fun _ => by kernel_rfl
theorem ts61 : TSize Try.prog 61 1 := fun _ => by kernel_rfl
theorem to62 : TOne Try.prog 62 := fun _ => by kernel_rfl
theorem ts62 : TSize Try.prog 62 1 := fun _ => by kernel_rfl
theorem to63 : TOne Try.prog 63 := fun _ => by kernel_rfl
theorem ts63 : TSize Try.prog 63 1 := fun _ => by kernel_rfl
theorem to64 : TOne Try.prog 64 := fun _ => by kernel_rfl
theorem ts64 : TSize Try.prog 64 1 := fun _ => by kernel_rfl
theorem to65 : TOne Try.prog 65 := fun _ => by kernel_rfl
theorem ts65 : TSize Try.prog 65 1 := fun _ => by kernel_rfl
theorem to66 : TOne Try.prog 66 := fun _ => by kernel_rfl
theorem ts66 : TSize Try.prog 66 1 := fun _ => by kernel_rfl
theorem ta67 : TAgg Try.prog 67 11 := fun _ => ⟨by kernel_rfl, by kernel_rfl⟩
theorem ts67 : TSize Try.prog 67 11 := fun _ => by kernel_rfl
theorem fo67_0 : FOff Try.prog 67 0 0 := fun _ _ => by kernel_rfl
theorem fo67_1 : FOff Try.prog 67 1 1 := fun _ _ => by kernel_rfl
theorem fo67_2 : FOff Try.prog 67 2 2 := fun _ _ => by kernel_rfl
theorem fo67_3 : FOff Try.prog 67 3 3 := fun _ _ => by kernel_rfl
theorem fo67_4 : FOff Try.prog 67 4 4 := fun _ _ => by kernel_rfl
theorem fo67_5 : FOff Try.prog 67 5 5 := fun _ _ => by kernel_rfl
theorem fo67_6 : FOff Try.prog 67 6 6 := fun _ _ => by kernel_rfl
theorem fo67_7 : FOff Try.prog 67 7 7 := fun _ _ => by kernel_rfl
theorem fo67_8 : FOff Try.prog 67 8 8 := fun _ _ => by kernel_rfl
theorem fo67_9 : FOff Try.prog 67 9 9 := fun _ _ => by kernel_rfl
theorem fo67_10 : FOff Try.prog 67 10 10 := fun _ _ => by kernel_rfl
theorem ta68 : TAgg Try.prog 68 11 := fun _ => ⟨by kernel_rfl, by kernel_rfl⟩
theorem ts68 : TSize Try.prog 68 11 := fun _ => by kernel_rfl
theorem fo68_0 : FOff Try.prog 68 0 0 := fun _ _ => by kernel_rfl
theorem fo68_1 : FOff Try.prog 68 1 1 := fun _ _ => by kernel_rfl
theorem fo68_2 : FOff Try.prog 68 2 2 := fun _ _ => by kernel_rfl
theorem fo68_3 : FOff Try.prog 68 3 3 := fun _ _ => by kernel_rfl
theorem fo68_4 : FOff Try.prog 68 4 4 := fun _ _ => by kernel_rfl
theorem fo68_5 : FOff Try.prog 68 5 5 := fun _ _ => by kernel_rfl
theorem fo68_6 : FOff Try.prog 68 6 6 := fun _ _ => by kernel_rfl
theorem fo68_7 : FOff Try.prog 68 7 7 := fun _ _ => by kernel_rfl
theorem fo68_8 : FOff Try.prog 68 8 8 := fun _ _ => by kernel_rfl
theorem fo68_9 : FOff Try.prog 68 9 9 := fun _ _ => by kernel_rfl
theorem fo68_10 : FOff Try.prog 68 10 10 := fun _ _ => by kernel_rfl
theorem to69 : TOne Try.prog 69 := fun _ => by kernel_rfl
theorem ts69 : TSize Try.prog 69 1 := fun _ => by kernel_rfl
theorem cf2 : CF Try.prog 2 := fun _ _ => by kernel_rfl
theorem cf3 : CF Try.prog 3 := fun _ _ => by kernel_rfl
theorem cf4 : CF Try.prog 4 := fun _ _ => by kernel_rfl
theorem cf5 : CF Try.prog 5 := fun _ _ => by kernel_rfl
theorem cf6 : CF Try.prog 6 := fun _ _ => by kernel_rfl
theorem cf7 : CF Try.prog 7 := fun _ _ => by kernel_rfl
theorem cf8 : CF Try.prog 8 := fun _ _ => by kernel_rfl
theorem cf9 : CF Try.prog 9 := fun _ _ => by kernel_rfl
theorem cf10 : CF Try.prog 10 := fun _ _ => by kernel_rfl
theorem cf11 : CF Try.prog 11 := fun _ _ => by kernel_rfl
theorem cf12 : CF Try.prog 12 := fun _ _ => by kernel_rfl
theorem cf13 : CF Try.prog 13 := fun _ _ => by kernel_rfl
theorem cf14 : CF Try.prog 14 := fun _ _ => by kernel_rfl
theorem cf15 : CF Try.prog 15 := fun _ _ => by kernel_rfl
theorem cf16 : CF Try.prog 16 := fun _ _ => by kernel_rfl
theorem cf17 : CF Try.prog 17 := fun _ _ => by kernel_rfl
theorem cf18 : CF Try.prog 18 := fun _ _ => by kernel_rfl
theorem cf19 : CF Try.prog 19 := fun _ _ => by kernel_rfl
theorem cf20 : CF Try.prog 20 := fun _ _ => by kernel_rfl
theorem cf21 : CF Try.prog 21 := fun _ _ => by kernel_rfl
theorem cf22 : CF Try.prog 22 := fun _ _ => by kernel_rfl
theorem cf23 : CF Try.prog 23 := fun _ _ => by kernel_rfl
theorem cf24 : CF Try.prog 24 := fun _ _ => by kernel_rfl
theorem cf25 : CF Try.prog 25 := fun _ _ => by kernel_rfl
theorem cf26 : CF Try.prog 26 := fun _ _ => by kernel_rfl
theorem cf27 : CF Try.prog 27 := fun _ _ => by kernel_rfl
theorem cf28 : CF Try.prog 28 := fun _ _ => by kernel_rfl
theorem cf29 : CF Try.prog 29 := fun _ _ => by kernel_rfl
theorem cf30 : CF Try.prog 30 := fun _ _ => by kernel_rfl
theorem cf31 : CF Try.prog 31 := fun _ _ => by kernel_rfl
theorem cf32 : CF Try.prog 32 := fun _ _ => by kernel_rfl
theorem cf33 : CF Try.prog 33 := fun _ _ => by kernel_rfl
theorem cf34 : CF Try.prog 34 := fun _ _ => by kernel_rfl
end Go.Proofs.Ytefhfbefgeadaaa
