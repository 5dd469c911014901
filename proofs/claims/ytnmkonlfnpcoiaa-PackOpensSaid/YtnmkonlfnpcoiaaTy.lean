import Derived.Test.YtnmkonlfnpcoiaaNest
import Derived.Test.YtnmkonlfnpcoiaaMrow
import Derived.Test.YtnmkonlfnpcoiaaFl
import Derived.Test.YtnmkonlfnpcoiaaProg
import Derived.Laws.StructEq
import Derived.WalkKit
namespace Go.Proofs.Ytnmkonlfnpcoiaa
open Go.RowKit
theorem g_mixed : Try.prog.follows .mixedOrders = true := by kernel_rfl
theorem to3 : TOne Try.prog 3 := fun _ => by kernel_rfl
theorem ts3 : TSize Try.prog 3 1 := fun _ => by kernel_rfl
def E3 : En (Int) := (En.int .i64)
theorem tn3 : Try.prog.underlying 3 = some (.int .i64) := by kernel_rfl
theorem tb4 : Try.prog.underlying 4 = some .bool := by kernel_rfl
theorem to5 : TOne Try.prog 5 := fun _ => by kernel_rfl
theorem ts5 : TSize Try.prog 5 1 := fun _ => by kernel_rfl
def E5 : En (Int) := (En.int .u8)
abbrev R5 : Rep (Int) := Rep.fl E5
theorem tn5 : Try.prog.underlying 5 = some (.int .u8) := by kernel_rfl
theorem to9 : TOne Try.prog 9 := fun _ => by kernel_rfl
theorem ts9 : TSize Try.prog 9 1 := fun _ => by kernel_rfl
def E9 : En (ByteArray) := En.str
abbrev R9 : Rep (ByteArray) := Rep.fl E9
theorem tS9 : Try.prog.underlying 9 = some .string := by kernel_rfl
theorem to22 : TOne Try.prog 22 := fun _ => by kernel_rfl
theorem ts22 : TSize Try.prog 22 1 := fun _ => by kernel_rfl
abbrev R22 : Rep (List Int) := Rep.sl R5
abbrev X22 : Ex R22 (Option Addr × Nat) := Ex.sl R5
theorem tl22 : TSlice Try.prog 22 1 := ⟨5, by kernel_rfl, fun _ => by kernel_rfl⟩
theorem tu22 : Try.prog.underlying 22 = some (.slice 5) := by kernel_rfl
theorem tp22 : TApp Try.prog 22 5 1 1 := tapp_of (z := .int .u8 0) (by kernel_rfl) (by kernel_rfl) (by kernel_rfl) (by decide)
theorem to23 : TOne Try.prog 23 := fun _ => by kernel_rfl
theorem ts23 : TSize Try.prog 23 1 := fun _ => by kernel_rfl
def E28 : En (Int × Int × Int) := (En.pr (En.int .i64) (En.pr (En.int .i64) (En.int .i64)))
abbrev R28 : Rep (Int × Int × Int) := Rep.fl E28
abbrev R30 : Rep ((Int × Int × Int) × (List Int)) := (Rep.pr R28 R22)
abbrev X30 : Ex R30 (Unit × (Option Addr × Nat)) := (Ex.pr (Ex.fl E28) X22)
theorem tl23 : TSlice Try.prog 23 4 := ⟨30, by kernel_rfl, fun _ => by kernel_rfl⟩
theorem tu23 : Try.prog.underlying 23 = some (.slice 30) := by kernel_rfl
theorem tp23 : TApp Try.prog 23 30 4 48 := tapp_of (z := .agg #[.int .i64 0, .int .i64 0, .int .i64 0, .slice none 0 0]) (by kernel_rfl) (by kernel_rfl) (by kernel_rfl) (by decide)
theorem to26 : TOne Try.prog 26 := fun _ => by kernel_rfl
theorem ts26 : TSize Try.prog 26 1 := fun _ => by kernel_rfl
def E26 : En (Int) := (En.int .u64)
abbrev R26 : Rep (Int) := Rep.fl E26
theorem tn26 : Try.prog.underlying 26 = some (.int .u64) := by kernel_rfl
theorem ta28 : TAgg Try.prog 28 3 := fun _ => ⟨by kernel_rfl, by kernel_rfl⟩
theorem ts28 : TSize Try.prog 28 3 := fun _ => by kernel_rfl
theorem fo28_0 : FOff Try.prog 28 0 0 := fun _ _ => by kernel_rfl
theorem fo28_1 : FOff Try.prog 28 1 1 := fun _ _ => by kernel_rfl
theorem fo28_2 : FOff Try.prog 28 2 2 := fun _ _ => by kernel_rfl
theorem se28 (x0 x1 x2 y0 y1 y2 : Int) (w : World) : (binOp .eql 28 (.agg #[.int .i64 x0, .int .i64 x1, .int .i64 x2]) (.agg #[.int .i64 y0, .int .i64 y1, .int .i64 y2])).run Try.prog w = .ok (.bool (decide ((x0, x1, x2) = (y0, y1, y2)))) w := by
  go_simp
  by_cases h0 : x0 = y0 <;> by_cases h1 : x1 = y1 <;> by_cases h2 : x2 = y2 <;> simp [h0, h1, h2]
theorem sn28 (x0 x1 x2 y0 y1 y2 : Int) (w : World) : (binOp .neq 28 (.agg #[.int .i64 x0, .int .i64 x1, .int .i64 x2]) (.agg #[.int .i64 y0, .int .i64 y1, .int .i64 y2])).run Try.prog w = .ok (.bool (!decide ((x0, x1, x2) = (y0, y1, y2)))) w := by
  go_simp
  by_cases h0 : x0 = y0 <;> by_cases h1 : x1 = y1 <;> by_cases h2 : x2 = y2 <;> simp [h0, h1, h2]
theorem sg28 : TGuard Try.prog 28 := fun op x y xs ys w => run_eqGuard_agg w op 28 x y xs ys (by kernel_rfl)
theorem ta30 : TAgg Try.prog 30 4 := fun _ => ⟨by kernel_rfl, by kernel_rfl⟩
theorem ts30 : TSize Try.prog 30 4 := fun _ => by kernel_rfl
theorem fo30_0 : FOff Try.prog 30 0 0 := fun _ _ => by kernel_rfl
theorem fo30_1 : FOff Try.prog 30 1 3 := fun _ _ => by kernel_rfl
theorem to31 : TOne Try.prog 31 := fun _ => by kernel_rfl
theorem ts31 : TSize Try.prog 31 1 := fun _ => by kernel_rfl
theorem to36 : TOne Try.prog 36 := fun _ => by kernel_rfl
theorem to41 : TOne Try.prog 41 := fun _ => by kernel_rfl
theorem ts41 : TSize Try.prog 41 1 := fun _ => by kernel_rfl
def E77 : En ((Int × Int × Int) × ByteArray) := (En.pr (En.pr (En.int .i64) (En.pr (En.int .i64) (En.int .i64))) En.str)
abbrev R77 : Rep ((Int × Int × Int) × ByteArray) := Rep.fl E77
theorem tl41 : TSlice Try.prog 41 4 := ⟨77, by kernel_rfl, fun _ => by kernel_rfl⟩
theorem tu41 : Try.prog.underlying 41 = some (.slice 77) := by kernel_rfl
theorem tp41 : TApp Try.prog 41 77 4 40 := tapp_of (z := .agg #[.int .i64 0, .int .i64 0, .int .i64 0, .string ByteArray.empty]) (by kernel_rfl) (by kernel_rfl) (by kernel_rfl) (by decide)
theorem ta43 : TAgg Try.prog 43 2 := fun _ => ⟨by kernel_rfl, by kernel_rfl⟩
theorem ts43 : TSize Try.prog 43 2 := fun _ => by kernel_rfl
theorem fo43_0 : FOff Try.prog 43 0 0 := fun _ _ => by kernel_rfl
theorem fo43_1 : FOff Try.prog 43 1 1 := fun _ _ => by kernel_rfl
theorem to59 : TOne Try.prog 59 := fun _ => by kernel_rfl
theorem ts59 : TSize Try.prog 59 1 := fun _ => by kernel_rfl
theorem to61 : TOne Try.prog 61 := fun _ => by kernel_rfl
theorem ts61 : TSize Try.prog 61 1 := fun _ => by kernel_rfl
theorem tl61 : TSlice Try.prog 61 1 := ⟨22, by kernel_rfl, fun _ => by kernel_rfl⟩
theorem tu61 : Try.prog.underlying 61 = some (.slice 22) := by kernel_rfl
theorem tp61 : TApp Try.prog 61 22 1 24 := tapp_of (z := .slice none 0 0) (by kernel_rfl) (by kernel_rfl) (by kernel_rfl) (by decide)
theorem to62 : TOne Try.prog 62 := fun _ => by kernel_rfl
theorem ts62 : TSize Try.prog 62 1 := fun _ => by kernel_rfl
def E66 : En ((Int × Int × Int) × Int) := (En.pr (En.pr (En.int .i64) (En.pr (En.int .i64) (En.int .i64))) (En.int .i64))
abbrev R66 : Rep ((Int × Int × Int) × Int) := Rep.fl E66
theorem tl62 : TSlice Try.prog 62 4 := ⟨66, by kernel_rfl, fun _ => by kernel_rfl⟩
theorem tu62 : Try.prog.underlying 62 = some (.slice 66) := by kernel_rfl
theorem tp62 : TApp Try.prog 62 66 4 32 := tapp_of (z := .agg #[.int .i64 0, .int .i64 0, .int .i64 0, .int .i64 0]) (by kernel_rfl) (by kernel_rfl) (by kernel_rfl) (by decide)
theorem fo64_0 : FOff Try.prog 64 0 0 := fun _ _ => by kernel_rfl
theorem fo64_1 : FOff Try.prog 64 1 1 := fun _ _ => by kernel_rfl
theorem fo64_2 : FOff Try.prog 64 2 2 := fun _ _ => by kernel_rfl
theorem ta66 : TAgg Try.prog 66 4 := fun _ => ⟨by kernel_rfl, by kernel_rfl⟩
theorem ts66 : TSize Try.prog 66 4 := fun _ => by kernel_rfl
theorem fo66_0 : FOff Try.prog 66 0 0 := fun _ _ => by kernel_rfl
theorem fo66_1 : FOff Try.prog 66 1 3 := fun _ _ => by kernel_rfl
theorem fo70_0 : FOff Try.prog 70 0 0 := fun _ _ => by kernel_rfl
theorem fo70_1 : FOff Try.prog 70 1 1 := fun _ _ => by kernel_rfl
theorem ta75 : TAgg Try.prog 75 3 := fun _ => ⟨by kernel_rfl, by kernel_rfl⟩
theorem ts75 : TSize Try.prog 75 3 := fun _ => by kernel_rfl
theorem fo75_0 : FOff Try.prog 75 0 0 := fun _ _ => by kernel_rfl
theorem fo75_1 : FOff Try.prog 75 1 1 := fun _ _ => by kernel_rfl
theorem fo75_2 : FOff Try.prog 75 2 2 := fun _ _ => by kernel_rfl
theorem se75 (x0 x1 x2 y0 y1 y2 : Int) (w : World) : (binOp .eql 75 (.agg #[.int .i64 x0, .int .i64 x1, .int .i64 x2]) (.agg #[.int .i64 y0, .int .i64 y1, .int .i64 y2])).run Try.prog w = .ok (.bool (decide ((x0, x1, x2) = (y0, y1, y2)))) w := by
  go_simp
  by_cases h0 : x0 = y0 <;> by_cases h1 : x1 = y1 <;> by_cases h2 : x2 = y2 <;> simp [h0, h1, h2]
theorem sn75 (x0 x1 x2 y0 y1 y2 : Int) (w : World) : (binOp .neq 75 (.agg #[.int .i64 x0, .int .i64 x1, .int .i64 x2]) (.agg #[.int .i64 y0, .int .i64 y1, .int .i64 y2])).run Try.prog w = .ok (.bool (!decide ((x0, x1, x2) = (y0, y1, y2)))) w := by
  go_simp
  by_cases h0 : x0 = y0 <;> by_cases h1 : x1 = y1 <;> by_cases h2 : x2 = y2 <;> simp [h0, h1, h2]
theorem sg75 : TGuard Try.prog 75 := fun op x y xs ys w => run_eqGuard_agg w op 75 x y xs ys (by kernel_rfl)
theorem fo77_0 : FOff Try.prog 77 0 0 := fun _ _ => by kernel_rfl
theorem fo77_1 : FOff Try.prog 77 1 3 := fun _ _ => by kernel_rfl
theorem tl80 : TSlice Try.prog 80 1 := ⟨9, by kernel_rfl, fun _ => by kernel_rfl⟩
theorem tu80 : Try.prog.underlying 80 = some (.slice 9) := by kernel_rfl
theorem tp80 : TApp Try.prog 80 9 1 16 := tapp_of (z := .string ByteArray.empty) (by kernel_rfl) (by kernel_rfl) (by kernel_rfl) (by decide)
theorem ta86 : TAgg Try.prog 86 3 := fun _ => ⟨by kernel_rfl, by kernel_rfl⟩
theorem ts86 : TSize Try.prog 86 3 := fun _ => by kernel_rfl
theorem fo86_0 : FOff Try.prog 86 0 0 := fun _ _ => by kernel_rfl
theorem fo86_1 : FOff Try.prog 86 1 1 := fun _ _ => by kernel_rfl
theorem fo86_2 : FOff Try.prog 86 2 2 := fun _ _ => by kernel_rfl
theorem tr91 : Try.prog.underlying 91 = some (.array 3 26) := by kernel_rfl
theorem to100 : TOne Try.prog 100 := fun _ => by kernel_rfl
theorem tl103 : TSlice Try.prog 103 1 := ⟨26, by kernel_rfl, fun _ => by kernel_rfl⟩
theorem tu103 : Try.prog.underlying 103 = some (.slice 26) := by kernel_rfl
theorem tn104 : Try.prog.underlying 104 = some (.int .u64) := by kernel_rfl
theorem fo111_0 : FOff Try.prog 111 0 0 := fun _ _ => by kernel_rfl
theorem fo111_1 : FOff Try.prog 111 1 1 := fun _ _ => by kernel_rfl
theorem to117 : TOne Try.prog 117 := fun _ => by kernel_rfl
theorem ta122 : TAgg Try.prog 122 2 := fun _ => ⟨by kernel_rfl, by kernel_rfl⟩
theorem fo122_0 : FOff Try.prog 122 0 0 := fun _ _ => by kernel_rfl
theorem fo122_1 : FOff Try.prog 122 1 1 := fun _ _ => by kernel_rfl
theorem to139 : TOne Try.prog 139 := fun _ => by kernel_rfl
theorem ts139 : TSize Try.prog 139 1 := fun _ => by kernel_rfl
theorem tn139 : Try.prog.underlying 139 = some (.int .u64) := by kernel_rfl
def vv9 (x : ByteArray) : Value := .string x
def vv4 (x : Bool) : Value := .bool x
theorem ko9 : KeyOk Try.prog 9 vv9 := ko_str (by kernel_rfl)
theorem tm67 : Try.prog.underlying 67 = some (.map 9 4) := by kernel_rfl
theorem tzv67 : ∀ w, (zeroValue 4).run Try.prog w = .ok (vv4 false) w := zeroValue_of (by kernel_rfl)
def vv28 (x : Int × Int × Int) : Value := .agg #[.int .i64 x.1, .int .i64 x.2.1, .int .i64 x.2.2]
theorem ko28 : KeyOk Try.prog 28 vv28 :=
  ⟨fun e k w => by
    unfold vv28
    rw [run_checkKey_struct e 9999 28 _ (by kernel_rfl) w]
    have h3 : ∀ (e : Bool) (d : Nat) (n : Int) (w : World), (Instr.checkKey e (d + 1) 3 (.int .i64 n)).run Try.prog w = .ok () w := fun e d n w => ck_int (by kernel_rfl) e d n
    simp [go_sem, chkF, h3], fun k k' w => eql_of_bin (se28 k.1 k.2.1 k.2.2 k'.1 k'.2.1 k'.2.2 w), ⟨.struct (Try.prog.fieldsOf 28), by kernel_rfl, fun k k' => .inl rfl⟩, fun k => by unfold vv28; simp [Instr.sameBits, beqS]⟩
theorem tm98 : Try.prog.underlying 98 = some (.map 28 4) := by kernel_rfl
theorem tzv98 : ∀ w, (zeroValue 4).run Try.prog w = .ok (vv4 false) w := zeroValue_of (by kernel_rfl)
def vv3 (x : Int) : Value := .int .i64 x
theorem tm101 : Try.prog.underlying 101 = some (.map 9 3) := by kernel_rfl
theorem tzv101 : ∀ w, (zeroValue 3).run Try.prog w = .ok (vv3 0) w := zeroValue_of (by kernel_rfl)
theorem cf9 : CF Try.prog 9 := fun _ _ => by kernel_rfl
theorem cf10 : CF Try.prog 10 := fun _ _ => by kernel_rfl
theorem cf11 : CF Try.prog 11 := fun _ _ => by kernel_rfl
theorem cf12 : CF Try.prog 12 := fun _ _ => by kernel_rfl
theorem cf13 : CF Try.prog 13 := fun _ _ => by kernel_rfl
theorem cf14 : CF Try.prog 14 := fun _ _ => by kernel_rfl
theorem cf18 : CF Try.prog 18 := fun _ _ => by kernel_rfl
theorem cf19 : CF Try.prog 19 := fun _ _ => by kernel_rfl
theorem cf20 : CF Try.prog 20 := fun _ _ => by kernel_rfl
theorem cf21 : CF Try.prog 21 := fun _ _ => by kernel_rfl
theorem cf22 : CF Try.prog 22 := fun _ _ => by kernel_rfl
theorem cf23 : CF Try.prog 23 := fun _ _ => by kernel_rfl
theorem cf24 : CF Try.prog 24 := fun _ _ => by kernel_rfl
theorem cf25 : CF Try.prog 25 := fun _ _ => by kernel_rfl
theorem cf26 : CF Try.prog 26 := fun _ _ => by kernel_rfl
theorem cf27 : CF Try.prog 27 := fun _ _ => by kernel_rfl
theorem cf28 : CF Try.prog 28 := fun _ _ => by kernel_rfl
theorem cf29 : CF Try.prog 29 := fun _ _ => by kernel_rfl
theorem cf30 : CF Try.prog 30 := fun _ _ => by kernel_rfl
theorem cf31 : CF Try.prog 31 := fun _ _ => by kernel_rfl
theorem cf32 : CF Try.prog 32 := fun _ _ => by kernel_rfl
theorem cf33 : CF Try.prog 33 := fun _ _ => by kernel_rfl
theorem cf35 : CF Try.prog 35 := fun _ _ => by kernel_rfl
theorem cf37 : CF Try.prog 37 := fun _ _ => by kernel_rfl
theorem cf38 : CF Try.prog 38 := fun _ _ => by kernel_rfl
theorem cf39 : CF Try.prog 39 := fun _ _ => by kernel_rfl
theorem cf40 : CF Try.prog 40 := fun _ _ => by kernel_rfl
theorem cf41 : CF Try.prog 41 := fun _ _ => by kernel_rfl
theorem cf42 : CF Try.prog 42 := fun _ _ => by kernel_rfl
theorem cf43 : CF Try.prog 43 := fun _ _ => by kernel_rfl
theorem cf44 : CF Try.prog 44 := fun _ _ => by kernel_rfl
theorem cf45 : CF Try.prog 45 := fun _ _ => by kernel_rfl
theorem cf46 : CF Try.prog 46 := fun _ _ => by kernel_rfl
theorem cf47 : CF Try.prog 47 := fun _ _ => by kernel_rfl
theorem cf48 : CF Try.prog 48 := fun _ _ => by kernel_rfl
theorem cf49 : CF Try.prog 49 := fun _ _ => by kernel_rfl
theorem cf50 : CF Try.prog 50 := fun _ _ => by kernel_rfl
theorem cf51 : CF Try.prog 51 := fun _ _ => by kernel_rfl
theorem cf52 : CF Try.prog 52 := fun _ _ => by kernel_rfl
theorem cf53 : CF Try.prog 53 := fun _ _ => by kernel_rfl
theorem cf54 : CF Try.prog 54 := fun _ _ => by kernel_rfl
theorem cf55 : CF Try.prog 55 := fun _ _ => by kernel_rfl
theorem cf59 : CF Try.prog 59 := fun _ _ => by kernel_rfl
theorem cf60 : CF Try.prog 60 := fun _ _ => by kernel_rfl
theorem cf61 : CF Try.prog 61 := fun _ _ => by kernel_rfl
theorem cf62 : CF Try.prog 62 := fun _ _ => by kernel_rfl
theorem cf73 : CF Try.prog 73 := fun _ _ => by kernel_rfl
theorem cf74 : CF Try.prog 74 := fun _ _ => by kernel_rfl
theorem cf75 : CF Try.prog 75 := fun _ _ => by kernel_rfl
theorem cf76 : CF Try.prog 76 := fun _ _ => by kernel_rfl
theorem cf77 : CF Try.prog 77 := fun _ _ => by kernel_rfl
theorem cf78 : CF Try.prog 78 := fun _ _ => by kernel_rfl
theorem cf79 : CF Try.prog 79 := fun _ _ => by kernel_rfl
theorem cf80 : CF Try.prog 80 := fun _ _ => by kernel_rfl
theorem cf81 : CF Try.prog 81 := fun _ _ => by kernel_rfl
theorem cf82 : CF Try.prog 82 := fun _ _ => by kernel_rfl
theorem cf83 : CF Try.prog 83 := fun _ _ => by kernel_rfl
theorem cf84 : CF Try.prog 84 := fun _ _ => by kernel_rfl
theorem cf85 : CF Try.prog 85 := fun _ _ => by kernel_rfl
theorem cf86 : CF Try.prog 86 := fun _ _ => by kernel_rfl
theorem cf87 : CF Try.prog 87 := fun _ _ => by kernel_rfl
theorem cf88 : CF Try.prog 88 := fun _ _ => by kernel_rfl
end Go.Proofs.Ytnmkonlfnpcoiaa
