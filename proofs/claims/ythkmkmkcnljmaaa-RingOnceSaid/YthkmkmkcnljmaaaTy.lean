import Derived.Test.YthkmkmkcnljmaaaNest
import Derived.Test.YthkmkmkcnljmaaaMrow
import Derived.Test.YthkmkmkcnljmaaaFl
import Derived.Test.YthkmkmkcnljmaaaProg
import Derived.Laws.StructEq
import Derived.WalkKit
namespace Go.Proofs.Ythkmkmkcnljmaaa
open Go.RowKit
theorem g_mixed : Try.prog.follows .mixedOrders = true := by kernel_rfl
theorem to3 : TOne Try.prog 3 := fun _ => by kernel_rfl
theorem ts3 : TSize Try.prog 3 1 := fun _ => by kernel_rfl
def E3 : En (Int) := (En.int .i64)
theorem to4 : TOne Try.prog 4 := fun _ => by kernel_rfl
theorem ts4 : TSize Try.prog 4 1 := fun _ => by kernel_rfl
theorem to22 : TOne Try.prog 22 := fun _ => by kernel_rfl
def E32 : En (Int × Int) := (En.pr (En.int .i64) (En.int .i64))
abbrev R32 : Rep (Int × Int) := Rep.fl E32
theorem tl22 : TSlice Try.prog 22 2 := ⟨32, by kernel_rfl, fun _ => by kernel_rfl⟩
theorem tu22 : Try.prog.underlying 22 = some (.slice 32) := by kernel_rfl
theorem ta32 : TAgg Try.prog 32 2 := fun _ => ⟨by kernel_rfl, by kernel_rfl⟩
theorem ts32 : TSize Try.prog 32 2 := fun _ => by kernel_rfl
theorem fo32_0 : FOff Try.prog 32 0 0 := fun _ _ => by kernel_rfl
theorem fo32_1 : FOff Try.prog 32 1 1 := fun _ _ => by kernel_rfl
theorem se32 (x0 x1 y0 y1 : Int) (w : World) : (binOp .eql 32 (.agg #[.int .i64 x0, .int .i64 x1]) (.agg #[.int .i64 y0, .int .i64 y1])).run Try.prog w = .ok (.bool (decide ((x0, x1) = (y0, y1)))) w := by
  go_simp
  by_cases h0 : x0 = y0 <;> by_cases h1 : x1 = y1 <;> simp [h0, h1]
theorem sg32 : TGuard Try.prog 32 := fun op x y xs ys w => run_eqGuard_agg w op 32 x y xs ys (by kernel_rfl)
theorem ta64 : TAgg Try.prog 64 4 := fun _ => ⟨by kernel_rfl, by kernel_rfl⟩
theorem ts64 : TSize Try.prog 64 4 := fun _ => by kernel_rfl
theorem fo64_0 : FOff Try.prog 64 0 0 := fun _ _ => by kernel_rfl
theorem fo64_1 : FOff Try.prog 64 1 2 := fun _ _ => by kernel_rfl
theorem tr74 : Try.prog.underlying 74 = some (.array 3 3) := by kernel_rfl
def vv32 (x : Int × Int) : Value := .agg #[.int .i64 x.1, .int .i64 x.2]
def vv4 (x : Bool) : Value := .bool x
theorem ko32 : KeyOk Try.prog 32 vv32 :=
  ⟨fun e k w => by
    unfold vv32
    rw [run_checkKey_struct e 9999 32 _ (by kernel_rfl) w]
    have h3 : ∀ (e : Bool) (d : Nat) (n : Int) (w : World), (Instr.checkKey e (d + 1) 3 (.int .i64 n)).run Try.prog w = .ok () w := fun e d n w => ck_int (by kernel_rfl) e d n
    simp [go_sem, chkF, h3], fun k k' w => eql_of_bin (se32 k.1 k.2 k'.1 k'.2 w), ⟨.struct (Try.prog.fieldsOf 32), by kernel_rfl, fun k k' => .inl rfl⟩, fun k => by unfold vv32; simp [Instr.sameBits, beqS]⟩
theorem tm57 : Try.prog.underlying 57 = some (.map 32 4) := by kernel_rfl
theorem tzv57 : ∀ w, (zeroValue 4).run Try.prog w = .ok (vv4 false) w := zeroValue_of (by kernel_rfl)
theorem cf8 : CF Try.prog 8 := fun _ _ => by kernel_rfl
theorem cf12 : CF Try.prog 12 := fun _ _ => by kernel_rfl
theorem cf13 : CF Try.prog 13 := fun _ _ => by kernel_rfl
theorem cf14 : CF Try.prog 14 := fun _ _ => by kernel_rfl
theorem cf16 : CF Try.prog 16 := fun _ _ => by kernel_rfl
theorem cf17 : CF Try.prog 17 := fun _ _ => by kernel_rfl
theorem cf33 : CF Try.prog 33 := fun _ _ => by kernel_rfl
theorem cf34 : CF Try.prog 34 := fun _ _ => by kernel_rfl
theorem cf35 : CF Try.prog 35 := fun _ _ => by kernel_rfl
theorem cf36 : CF Try.prog 36 := fun _ _ => by kernel_rfl
theorem cf38 : CF Try.prog 38 := fun _ _ => by kernel_rfl
theorem cf39 : CF Try.prog 39 := fun _ _ => by kernel_rfl
theorem cf40 : CF Try.prog 40 := fun _ _ => by kernel_rfl
theorem cf41 : CF Try.prog 41 := fun _ _ => by kernel_rfl
theorem cf42 : CF Try.prog 42 := fun _ _ => by kernel_rfl
theorem cf48 : CF Try.prog 48 := fun _ _ => by kernel_rfl
theorem cf54 : CF Try.prog 54 := fun _ _ => by kernel_rfl
theorem cf55 : CF Try.prog 55 := fun _ _ => by kernel_rfl
theorem cf56 : CF Try.prog 56 := fun _ _ => by kernel_rfl
theorem cf60 : CF Try.prog 60 := fun _ _ => by kernel_rfl
theorem cf61 : CF Try.prog 61 := fun _ _ => by kernel_rfl
end Go.Proofs.Ythkmkmkcnljmaaa
