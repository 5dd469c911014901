import Derived.Test.YtpbhdblkjabdlaaNest
import Derived.Test.YtpbhdblkjabdlaaMrow
import Derived.Test.YtpbhdblkjabdlaaFl
import Derived.Test.YtpbhdblkjabdlaaProg
import Derived.Laws.StructEq
import Derived.WalkKit
namespace Go.Proofs.Ytpbhdblkjabdlaa
open Go.RowKit
theorem g_mixed : Try.prog.follows .mixedOrders = true := by kernel_rfl
theorem to3 : TOne Try.prog 3 := fun _ => by kernel_rfl
theorem ts3 : TSize Try.prog 3 1 := fun _ => by kernel_rfl
def E3 : En (Int) := (En.int .i64)
abbrev R3 : Rep (Int) := Rep.fl E3
theorem tb4 : Try.prog.underlying 4 = some .bool := by kernel_rfl
theorem to9 : TOne Try.prog 9 := fun _ => by kernel_rfl
theorem ts9 : TSize Try.prog 9 1 := fun _ => by kernel_rfl
def E9 : En (ByteArray) := En.str
abbrev R9 : Rep (ByteArray) := Rep.fl E9
theorem tS9 : Try.prog.underlying 9 = some .string := by kernel_rfl
def E64 : En (ByteArray × (Int × ByteArray × Int)) := (En.pr En.str (En.pr (En.int .i64) (En.pr En.str (En.int .i64))))
abbrev R64 : Rep (ByteArray × (Int × ByteArray × Int)) := Rep.fl E64
theorem tl22 : TSlice Try.prog 22 4 := ⟨64, by kernel_rfl, fun _ => by kernel_rfl⟩
theorem tu22 : Try.prog.underlying 22 = some (.slice 64) := by kernel_rfl
theorem tp22 : TApp Try.prog 22 64 4 48 := tapp_of (z := .agg #[.string ByteArray.empty, .int .i64 0, .string ByteArray.empty, .int .i64 0]) (by kernel_rfl) (by kernel_rfl) (by kernel_rfl) (by decide)
theorem tl23 : TSlice Try.prog 23 1 := ⟨3, by kernel_rfl, fun _ => by kernel_rfl⟩
theorem tu23 : Try.prog.underlying 23 = some (.slice 3) := by kernel_rfl
theorem tp23 : TApp Try.prog 23 3 1 8 := tapp_of (z := .int .i64 0) (by kernel_rfl) (by kernel_rfl) (by kernel_rfl) (by decide)
def E77 : En (ByteArray × (Int × ByteArray × Int)) := (En.pr En.str (En.pr (En.int .i64) (En.pr En.str (En.int .i64))))
abbrev R77 : Rep (ByteArray × (Int × ByteArray × Int)) := Rep.fl E77
theorem tl31 : TSlice Try.prog 31 4 := ⟨77, by kernel_rfl, fun _ => by kernel_rfl⟩
theorem tu31 : Try.prog.underlying 31 = some (.slice 77) := by kernel_rfl
theorem tp31 : TApp Try.prog 31 77 4 48 := tapp_of (z := .agg #[.string ByteArray.empty, .int .i64 0, .string ByteArray.empty, .int .i64 0]) (by kernel_rfl) (by kernel_rfl) (by kernel_rfl) (by decide)
theorem to34 : TOne Try.prog 34 := fun _ => by kernel_rfl
theorem ts34 : TSize Try.prog 34 1 := fun _ => by kernel_rfl
theorem tl34 : TSlice Try.prog 34 1 := ⟨9, by kernel_rfl, fun _ => by kernel_rfl⟩
theorem tu34 : Try.prog.underlying 34 = some (.slice 9) := by kernel_rfl
theorem tp34 : TApp Try.prog 34 9 1 16 := tapp_of (z := .string ByteArray.empty) (by kernel_rfl) (by kernel_rfl) (by kernel_rfl) (by decide)
theorem to35 : TOne Try.prog 35 := fun _ => by kernel_rfl
theorem ts35 : TSize Try.prog 35 1 := fun _ => by kernel_rfl
def E75 : En (Int × ByteArray × Int) := (En.pr (En.int .i64) (En.pr En.str (En.int .i64)))
abbrev R75 : Rep (Int × ByteArray × Int) := Rep.fl E75
theorem tl35 : TSlice Try.prog 35 3 := ⟨75, by kernel_rfl, fun _ => by kernel_rfl⟩
theorem tu35 : Try.prog.underlying 35 = some (.slice 75) := by kernel_rfl
theorem tp35 : TApp Try.prog 35 75 3 32 := tapp_of (z := .agg #[.int .i64 0, .string ByteArray.empty, .int .i64 0]) (by kernel_rfl) (by kernel_rfl) (by kernel_rfl) (by decide)
theorem ta37 : TAgg Try.prog 37 2 := fun _ => ⟨by kernel_rfl, by kernel_rfl⟩
theorem ts37 : TSize Try.prog 37 2 := fun _ => by kernel_rfl
theorem fo37_0 : FOff Try.prog 37 0 0 := fun _ _ => by kernel_rfl
theorem fo37_1 : FOff Try.prog 37 1 1 := fun _ _ => by kernel_rfl
theorem to41 : TOne Try.prog 41 := fun _ => by kernel_rfl
theorem ts41 : TSize Try.prog 41 1 := fun _ => by kernel_rfl
def E60 : En (Int × ByteArray × Int) := (En.pr (En.int .i64) (En.pr En.str (En.int .i64)))
abbrev R60 : Rep (Int × ByteArray × Int) := Rep.fl E60
theorem tl41 : TSlice Try.prog 41 3 := ⟨60, by kernel_rfl, fun _ => by kernel_rfl⟩
theorem tu41 : Try.prog.underlying 41 = some (.slice 60) := by kernel_rfl
theorem tp41 : TApp Try.prog 41 60 3 32 := tapp_of (z := .agg #[.int .i64 0, .string ByteArray.empty, .int .i64 0]) (by kernel_rfl) (by kernel_rfl) (by kernel_rfl) (by decide)
theorem ta43 : TAgg Try.prog 43 2 := fun _ => ⟨by kernel_rfl, by kernel_rfl⟩
theorem ts43 : TSize Try.prog 43 2 := fun _ => by kernel_rfl
theorem fo43_0 : FOff Try.prog 43 0 0 := fun _ _ => by kernel_rfl
theorem fo43_1 : FOff Try.prog 43 1 1 := fun _ _ => by kernel_rfl
theorem ta60 : TAgg Try.prog 60 3 := fun _ => ⟨by kernel_rfl, by kernel_rfl⟩
theorem ts60 : TSize Try.prog 60 3 := fun _ => by kernel_rfl
theorem fo60_0 : FOff Try.prog 60 0 0 := fun _ _ => by kernel_rfl
theorem fo60_1 : FOff Try.prog 60 1 1 := fun _ _ => by kernel_rfl
theorem fo60_2 : FOff Try.prog 60 2 2 := fun _ _ => by kernel_rfl
theorem se60_ (x0 y0 : Int) (x1 y1 : ByteArray) (x2 y2 : Int) (w : World) : (binOp .eql 60 (.agg #[.int .i64 x0, .string x1, .int .i64 x2]) (.agg #[.int .i64 y0, .string y1, .int .i64 y2])).run Try.prog w = .ok (.bool (decide ((x0, x1, x2) = (y0, y1, y2)))) w := by
  refine bin_eql (b := decide ((x0, x1, x2) = (y0, y1, y2))) ?_
  rw [run_eqF 9999 _ _ (by kernel_rfl) (by kernel_rfl) w]
  have k3 : ∀ (d : Nat) (x y : Int) (w : World), (Op.equalIn (d + 1) 3 (.int .i64 x) (.int .i64 y)).run Try.prog w = .ok (decide (x = y)) w := fun d x y w => eq_int (by kernel_rfl) d x y
  have k9 : ∀ (d : Nat) (x y : ByteArray) (w : World), (Op.equalIn (d + 1) 9 (.string x) (.string y)).run Try.prog w = .ok (decide (x = y)) w := fun d x y w => eq_str (by kernel_rfl) d x y
  simp [go_sem, eqF, k3, k9]
  by_cases h0 : x0 = y0 <;> by_cases h1 : x1 = y1 <;> by_cases h2 : x2 = y2 <;> simp [h0, h1, h2]
theorem se60 (x0 : Int) (x1 : ByteArray) (x2 : Int) (y0 : Int) (y1 : ByteArray) (y2 : Int) (w : World) : (binOp .eql 60 (.agg #[.int .i64 x0, .string x1, .int .i64 x2]) (.agg #[.int .i64 y0, .string y1, .int .i64 y2])).run Try.prog w = .ok (.bool (decide ((x0, x1, x2) = (y0, y1, y2)))) w := se60_ x0 y0 x1 y1 x2 y2 w
theorem sg60 : TGuard Try.prog 60 := fun op x y xs ys w => run_eqGuard_agg w op 60 x y xs ys (by kernel_rfl)
theorem ta64 : TAgg Try.prog 64 4 := fun _ => ⟨by kernel_rfl, by kernel_rfl⟩
theorem ts64 : TSize Try.prog 64 4 := fun _ => by kernel_rfl
theorem fo64_0 : FOff Try.prog 64 0 0 := fun _ _ => by kernel_rfl
theorem fo64_1 : FOff Try.prog 64 1 1 := fun _ _ => by kernel_rfl
theorem sn64_ (x0 y0 : ByteArray) (x1 y1 : Int) (x2 y2 : ByteArray) (x3 y3 : Int) (w : World) : (binOp .neq 64 (.agg #[.string x0, .int .i64 x1, .string x2, .int .i64 x3]) (.agg #[.string y0, .int .i64 y1, .string y2, .int .i64 y3])).run Try.prog w = .ok (.bool (!decide ((x0, (x1, x2, x3)) = (y0, (y1, y2, y3))))) w := by
  refine bin_neq (b := decide ((x0, (x1, x2, x3)) = (y0, (y1, y2, y3)))) ?_
  rw [run_eqF 9999 _ _ (by kernel_rfl) (by kernel_rfl) w]
  have k3 : ∀ (d : Nat) (x y : Int) (w : World), (Op.equalIn (d + 1) 3 (.int .i64 x) (.int .i64 y)).run Try.prog w = .ok (decide (x = y)) w := fun d x y w => eq_int (by kernel_rfl) d x y
  have k9 : ∀ (d : Nat) (x y : ByteArray) (w : World), (Op.equalIn (d + 1) 9 (.string x) (.string y)).run Try.prog w = .ok (decide (x = y)) w := fun d x y w => eq_str (by kernel_rfl) d x y
  have q60 : ∀ (xs ys : Array Value) (d : Nat) (w : World), (Op.equalIn (d + 1) 60 (.agg xs) (.agg ys)).run Try.prog w = (eqF d xs ys (Try.prog.fieldsOf 60).toList).run Try.prog w := fun xs ys d w => run_eqF d xs ys (by kernel_rfl) (by kernel_rfl) w
  simp [go_sem, eqF, k3, k9, q60]
  by_cases h0 : x0 = y0 <;> by_cases h1 : x1 = y1 <;> by_cases h2 : x2 = y2 <;> by_cases h3 : x3 = y3 <;> simp [h0, h1, h2, h3]
theorem sn64 (x0 : ByteArray) (x1 : Int) (x2 : ByteArray) (x3 : Int) (y0 : ByteArray) (y1 : Int) (y2 : ByteArray) (y3 : Int) (w : World) : (binOp .neq 64 (.agg #[.string x0, .int .i64 x1, .string x2, .int .i64 x3]) (.agg #[.string y0, .int .i64 y1, .string y2, .int .i64 y3])).run Try.prog w = .ok (.bool (!decide ((x0, (x1, x2, x3)) = (y0, (y1, y2, y3))))) w := sn64_ x0 y0 x1 y1 x2 y2 x3 y3 w
theorem sg64 : TGuard Try.prog 64 := fun op x y xs ys w => run_eqGuard_agg w op 64 x y xs ys (by kernel_rfl)
theorem ta75 : TAgg Try.prog 75 3 := fun _ => ⟨by kernel_rfl, by kernel_rfl⟩
theorem sn75_ (x0 y0 : Int) (x1 y1 : ByteArray) (x2 y2 : Int) (w : World) : (binOp .neq 75 (.agg #[.int .i64 x0, .string x1, .int .i64 x2]) (.agg #[.int .i64 y0, .string y1, .int .i64 y2])).run Try.prog w = .ok (.bool (!decide ((x0, x1, x2) = (y0, y1, y2)))) w := by
  refine bin_neq (b := decide ((x0, x1, x2) = (y0, y1, y2))) ?_
  rw [run_eqF 9999 _ _ (by kernel_rfl) (by kernel_rfl) w]
  have k3 : ∀ (d : Nat) (x y : Int) (w : World), (Op.equalIn (d + 1) 3 (.int .i64 x) (.int .i64 y)).run Try.prog w = .ok (decide (x = y)) w := fun d x y w => eq_int (by kernel_rfl) d x y
  have k9 : ∀ (d : Nat) (x y : ByteArray) (w : World), (Op.equalIn (d + 1) 9 (.string x) (.string y)).run Try.prog w = .ok (decide (x = y)) w := fun d x y w => eq_str (by kernel_rfl) d x y
  simp [go_sem, eqF, k3, k9]
  by_cases h0 : x0 = y0 <;> by_cases h1 : x1 = y1 <;> by_cases h2 : x2 = y2 <;> simp [h0, h1, h2]
theorem sn75 (x0 : Int) (x1 : ByteArray) (x2 : Int) (y0 : Int) (y1 : ByteArray) (y2 : Int) (w : World) : (binOp .neq 75 (.agg #[.int .i64 x0, .string x1, .int .i64 x2]) (.agg #[.int .i64 y0, .string y1, .int .i64 y2])).run Try.prog w = .ok (.bool (!decide ((x0, x1, x2) = (y0, y1, y2)))) w := sn75_ x0 y0 x1 y1 x2 y2 w
theorem sg75 : TGuard Try.prog 75 := fun op x y xs ys w => run_eqGuard_agg w op 75 x y xs ys (by kernel_rfl)
theorem ta77 : TAgg Try.prog 77 4 := fun _ => ⟨by kernel_rfl, by kernel_rfl⟩
theorem ts77 : TSize Try.prog 77 4 := fun _ => by kernel_rfl
theorem fo77_0 : FOff Try.prog 77 0 0 := fun _ _ => by kernel_rfl
theorem fo77_1 : FOff Try.prog 77 1 1 := fun _ _ => by kernel_rfl
def vv9 (x : ByteArray) : Value := .string x
def vv4 (x : Bool) : Value := .bool x
theorem ko9 : KeyOk Try.prog 9 vv9 := ko_str (by kernel_rfl)
theorem tm74 : Try.prog.underlying 74 = some (.map 9 4) := by kernel_rfl
theorem tzv74 : ∀ w, (zeroValue 4).run Try.prog w = .ok (vv4 false) w := zeroValue_of (by kernel_rfl)
theorem cf7 : CF Try.prog 7 := fun _ _ => by kernel_rfl
theorem cf8 : CF Try.prog 8 := fun _ _ => by kernel_rfl
theorem cf9 : CF Try.prog 9 := fun _ _ => by kernel_rfl
theorem cf10 : CF Try.prog 10 := fun _ _ => by kernel_rfl
theorem cf11 : CF Try.prog 11 := fun _ _ => by kernel_rfl
theorem cf13 : CF Try.prog 13 := fun _ _ => by kernel_rfl
theorem cf16 : CF Try.prog 16 := fun _ _ => by kernel_rfl
theorem cf17 : CF Try.prog 17 := fun _ _ => by kernel_rfl
theorem cf20 : CF Try.prog 20 := fun _ _ => by kernel_rfl
theorem cf21 : CF Try.prog 21 := fun _ _ => by kernel_rfl
theorem cf22 : CF Try.prog 22 := fun _ _ => by kernel_rfl
theorem cf23 : CF Try.prog 23 := fun _ _ => by kernel_rfl
theorem cf24 : CF Try.prog 24 := fun _ _ => by kernel_rfl
theorem cf25 : CF Try.prog 25 := fun _ _ => by kernel_rfl
theorem cf26 : CF Try.prog 26 := fun _ _ => by kernel_rfl
theorem cf27 : CF Try.prog 27 := fun _ _ => by kernel_rfl
theorem cf28 : CF Try.prog 28 := fun _ _ => by kernel_rfl
theorem cf31 : CF Try.prog 31 := fun _ _ => by kernel_rfl
theorem cf33 : CF Try.prog 33 := fun _ _ => by kernel_rfl
theorem cf38 : CF Try.prog 38 := fun _ _ => by kernel_rfl
theorem cf39 : CF Try.prog 39 := fun _ _ => by kernel_rfl
theorem cf40 : CF Try.prog 40 := fun _ _ => by kernel_rfl
theorem cf41 : CF Try.prog 41 := fun _ _ => by kernel_rfl
theorem cf42 : CF Try.prog 42 := fun _ _ => by kernel_rfl
theorem cf43 : CF Try.prog 43 := fun _ _ => by kernel_rfl
theorem cf44 : CF Try.prog 44 := fun _ _ => by kernel_rfl
theorem cf45 : CF Try.prog 45 := fun _ _ => by kernel_rfl
theorem cf46 : CF Try.prog 46 := fun _ _ => by kernel_rfl
theorem cf47 : CF Try.prog 47 := fun _ _ => by kernel_rfl
theorem cf48 : CF Try.prog 48 := fun _ _ => by kernel_rfl
theorem cf49 : CF Try.prog 49 := fun _ _ => by kernel_rfl
theorem cf50 : CF Try.prog 50 := fun _ _ => by kernel_rfl
theorem cf52 : CF Try.prog 52 := fun _ _ => by kernel_rfl
theorem cf53 : CF Try.prog 53 := fun _ _ => by kernel_rfl
theorem cf54 : CF Try.prog 54 := fun _ _ => by kernel_rfl
theorem cf55 : CF Try.prog 55 := fun _ _ => by kernel_rfl
theorem cf57 : CF Try.prog 57 := fun _ _ => by kernel_rfl
theorem cf59 : CF Try.prog 59 := fun _ _ => by kernel_rfl
theorem cf61 : CF Try.prog 61 := fun _ _ => by kernel_rfl
end Go.Proofs.Ytpbhdblkjabdlaa
