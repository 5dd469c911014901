import Derived.Test.YtopnbammdeimcaaNest
import Derived.Test.YtopnbammdeimcaaMrow
import Derived.Test.YtopnbammdeimcaaFl
import Derived.Test.YtopnbammdeimcaaProg
import Derived.Laws.StructEq
import Derived.WalkKit
namespace Go.Proofs.Ytopnbammdeimcaa
open Go.RowKit
theorem g_mixed : Try.prog.follows .mixedOrders = true := by kernel_rfl
theorem to3 : TOne Try.prog 3 := fun _ => by kernel_rfl
theorem ts3 : TSize Try.prog 3 1 := fun _ => by kernel_rfl
def E3 : En (Int) := (En.int .i64)
theorem to4 : TOne Try.prog 4 := fun _ => by kernel_rfl
theorem ts4 : TSize Try.prog 4 1 := fun _ => by kernel_rfl
theorem tb4 : Try.prog.underlying 4 = some .bool := by kernel_rfl
theorem to22 : TOne Try.prog 22 := fun _ => by kernel_rfl
def E25 : En (Int × Int) := (En.pr (En.int .i64) (En.int .i64))
abbrev R25 : Rep (Int × Int) := Rep.fl E25
theorem tl22 : TSlice Try.prog 22 2 := ⟨25, by kernel_rfl, fun _ => by kernel_rfl⟩
theorem tu22 : Try.prog.underlying 22 = some (.slice 25) := by kernel_rfl
theorem tp22 : TApp Try.prog 22 25 2 16 := tapp_of (z := .agg #[.int .i64 0, .int .i64 0]) (by kernel_rfl) (by kernel_rfl) (by kernel_rfl) (by decide)
theorem ta25 : TAgg Try.prog 25 2 := fun _ => ⟨by kernel_rfl, by kernel_rfl⟩
theorem ts25 : TSize Try.prog 25 2 := fun _ => by kernel_rfl
theorem fo25_0 : FOff Try.prog 25 0 0 := fun _ _ => by kernel_rfl
theorem fo25_1 : FOff Try.prog 25 1 1 := fun _ _ => by kernel_rfl
theorem se25 (x0 x1 y0 y1 : Int) (w : World) : (binOp .eql 25 (.agg #[.int .i64 x0, .int .i64 x1]) (.agg #[.int .i64 y0, .int .i64 y1])).run Try.prog w = .ok (.bool (decide ((x0, x1) = (y0, y1)))) w := by
  go_simp
  by_cases h0 : x0 = y0 <;> by_cases h1 : x1 = y1 <;> simp [h0, h1]
theorem sn25 (x0 x1 y0 y1 : Int) (w : World) : (binOp .neq 25 (.agg #[.int .i64 x0, .int .i64 x1]) (.agg #[.int .i64 y0, .int .i64 y1])).run Try.prog w = .ok (.bool (!decide ((x0, x1) = (y0, y1)))) w := by
  go_simp
  by_cases h0 : x0 = y0 <;> by_cases h1 : x1 = y1 <;> simp [h0, h1]
theorem sg25 : TGuard Try.prog 25 := fun op x y xs ys w => run_eqGuard_agg w op 25 x y xs ys (by kernel_rfl)
theorem ta31 : TAgg Try.prog 31 4 := fun _ => ⟨by kernel_rfl, by kernel_rfl⟩
def E31 : En ((Int × Int) × (Int × Int)) := (En.pr (En.pr (En.int .i64) (En.int .i64)) (En.pr (En.int .i64) (En.int .i64)))
theorem fo31_0 : FOff Try.prog 31 0 0 := fun _ _ => by kernel_rfl
theorem fo31_1 : FOff Try.prog 31 1 2 := fun _ _ => by kernel_rfl
def E43 : En (Int × Int) := (En.pr (En.int .i64) (En.int .i64))
abbrev R43 : Rep (Int × Int) := Rep.fl E43
theorem tl34 : TSlice Try.prog 34 2 := ⟨43, by kernel_rfl, fun _ => by kernel_rfl⟩
theorem tu34 : Try.prog.underlying 34 = some (.slice 43) := by kernel_rfl
theorem tp34 : TApp Try.prog 34 43 2 16 := tapp_of (z := .agg #[.int .i64 0, .int .i64 0]) (by kernel_rfl) (by kernel_rfl) (by kernel_rfl) (by decide)
theorem ta43 : TAgg Try.prog 43 2 := fun _ => ⟨by kernel_rfl, by kernel_rfl⟩
theorem ts43 : TSize Try.prog 43 2 := fun _ => by kernel_rfl
theorem fo43_0 : FOff Try.prog 43 0 0 := fun _ _ => by kernel_rfl
theorem fo43_1 : FOff Try.prog 43 1 1 := fun _ _ => by kernel_rfl
theorem sn43 (x0 x1 y0 y1 : Int) (w : World) : (binOp .neq 43 (.agg #[.int .i64 x0, .int .i64 x1]) (.agg #[.int .i64 y0, .int .i64 y1])).run Try.prog w = .ok (.bool (!decide ((x0, x1) = (y0, y1)))) w := by
  go_simp
  by_cases h0 : x0 = y0 <;> by_cases h1 : x1 = y1 <;> simp [h0, h1]
theorem sg43 : TGuard Try.prog 43 := fun op x y xs ys w => run_eqGuard_agg w op 43 x y xs ys (by kernel_rfl)
theorem ta56 : TAgg Try.prog 56 3 := fun _ => ⟨by kernel_rfl, by kernel_rfl⟩
theorem ts56 : TSize Try.prog 56 3 := fun _ => by kernel_rfl
def E56 : En (Int × Bool × Bool) := (En.pr (En.int .i64) (En.pr En.bool En.bool))
theorem fo56_0 : FOff Try.prog 56 0 0 := fun _ _ => by kernel_rfl
theorem fo56_1 : FOff Try.prog 56 1 1 := fun _ _ => by kernel_rfl
theorem fo56_2 : FOff Try.prog 56 2 2 := fun _ _ => by kernel_rfl
theorem ta57 : TAgg Try.prog 57 12 := fun _ => ⟨by kernel_rfl, by kernel_rfl⟩
theorem ts57 : TSize Try.prog 57 12 := fun _ => by kernel_rfl
theorem tr57 : Try.prog.underlying 57 = some (.array 4 56) := by kernel_rfl
theorem tr70 : Try.prog.underlying 70 = some (.array 3 3) := by kernel_rfl
def vv25 (x : Int × Int) : Value := .agg #[.int .i64 x.1, .int .i64 x.2]
def vv4 (x : Bool) : Value := .bool x
theorem ko25 : KeyOk Try.prog 25 vv25 :=
  ⟨fun e k w => by
    unfold vv25
    rw [run_checkKey_struct e 9999 25 _ (by kernel_rfl) w]
    have h3 : ∀ (e : Bool) (d : Nat) (n : Int) (w : World), (Instr.checkKey e (d + 1) 3 (.int .i64 n)).run Try.prog w = .ok () w := fun e d n w => ck_int (by kernel_rfl) e d n
    simp [go_sem, chkF, h3], fun k k' w => eql_of_bin (se25 k.1 k.2 k'.1 k'.2 w), ⟨.struct (Try.prog.fieldsOf 25), by kernel_rfl, fun k k' => .inl rfl⟩, fun k => by unfold vv25; simp [Instr.sameBits, beqS]⟩
theorem tm60 : Try.prog.underlying 60 = some (.map 25 4) := by kernel_rfl
theorem tzv60 : ∀ w, (zeroValue 4).run Try.prog w = .ok (vv4 false) w := zeroValue_of (by kernel_rfl)
theorem cf6 : CF Try.prog 6 := fun _ _ => by kernel_rfl
theorem cf7 : CF Try.prog 7 := fun _ _ => by kernel_rfl
theorem cf8 : CF Try.prog 8 := fun _ _ => by kernel_rfl
theorem cf9 : CF Try.prog 9 := fun _ _ => by kernel_rfl
theorem cf10 : CF Try.prog 10 := fun _ _ => by kernel_rfl
theorem cf11 : CF Try.prog 11 := fun _ _ => by kernel_rfl
theorem cf12 : CF Try.prog 12 := fun _ _ => by kernel_rfl
theorem cf13 : CF Try.prog 13 := fun _ _ => by kernel_rfl
theorem cf14 : CF Try.prog 14 := fun _ _ => by kernel_rfl
theorem cf15 : CF Try.prog 15 := fun _ _ => by kernel_rfl
theorem cf16 : CF Try.prog 16 := fun _ _ => by kernel_rfl
theorem cf17 : CF Try.prog 17 := fun _ _ => by kernel_rfl
theorem cf18 : CF Try.prog 18 := fun _ _ => by kernel_rfl
theorem cf19 : CF Try.prog 19 := fun _ _ => by kernel_rfl
theorem cf20 : CF Try.prog 20 := fun _ _ => by kernel_rfl
theorem cf21 : CF Try.prog 21 := fun _ _ => by kernel_rfl
theorem cf22 : CF Try.prog 22 := fun _ _ => by kernel_rfl
theorem cf23 : CF Try.prog 23 := fun _ _ => by kernel_rfl
theorem cf24 : CF Try.prog 24 := fun _ _ => by kernel_rfl
theorem cf25 : CF Try.prog 25 := fun _ _ => by kernel_rfl
theorem cf26 : CF Try.prog 26 := fun _ _ => by kernel_rfl
theorem cf27 : CF Try.prog 27 := fun _ _ => by kernel_rfl
theorem cf28 : CF Try.prog 28 := fun _ _ => by kernel_rfl
theorem cf29 : CF Try.prog 29 := fun _ _ => by kernel_rfl
theorem cf30 : CF Try.prog 30 := fun _ _ => by kernel_rfl
theorem cf31 : CF Try.prog 31 := fun _ _ => by kernel_rfl
theorem cf32 : CF Try.prog 32 := fun _ _ => by kernel_rfl
theorem cf33 : CF Try.prog 33 := fun _ _ => by kernel_rfl
theorem cf34 : CF Try.prog 34 := fun _ _ => by kernel_rfl
theorem cf35 : CF Try.prog 35 := fun _ _ => by kernel_rfl
theorem cf36 : CF Try.prog 36 := fun _ _ => by kernel_rfl
theorem cf37 : CF Try.prog 37 := fun _ _ => by kernel_rfl
theorem cf38 : CF Try.prog 38 := fun _ _ => by kernel_rfl
theorem cf39 : CF Try.prog 39 := fun _ _ => by kernel_rfl
theorem cf40 : CF Try.prog 40 := fun _ _ => by kernel_rfl
theorem cf41 : CF Try.prog 41 := fun _ _ => by kernel_rfl
theorem cf42 : CF Try.prog 42 := fun _ _ => by kernel_rfl
theorem cf43 : CF Try.prog 43 := fun _ _ => by kernel_rfl
theorem cf44 : CF Try.prog 44 := fun _ _ => by kernel_rfl
theorem cf45 : CF Try.prog 45 := fun _ _ => by kernel_rfl
end Go.Proofs.Ytopnbammdeimcaa
