import Derived.Test.YtoccfdohlefifaaNest
import Derived.Test.YtoccfdohlefifaaMrow
import Derived.Test.YtoccfdohlefifaaFl
import Derived.Test.YtoccfdohlefifaaProg
import Derived.Laws.StructEq
import Derived.WalkKit
namespace Go.Proofs.Ytoccfdohlefifaa
open Go.RowKit
theorem g_mixed : Try.prog.follows .mixedOrders = true := by kernel_rfl
theorem to3 : TOne Try.prog 3 := fun _ => by kernel_rfl
theorem ts3 : TSize Try.prog 3 1 := fun _ => by kernel_rfl
def E3 : En (Int) := (En.int .i64)
abbrev R3 : Rep (Int) := Rep.fl E3
theorem to4 : TOne Try.prog 4 := fun _ => by kernel_rfl
def E4 : En (Bool) := En.bool
theorem tb4 : Try.prog.underlying 4 = some .bool := by kernel_rfl
theorem to22 : TOne Try.prog 22 := fun _ => by kernel_rfl
theorem ts22 : TSize Try.prog 22 1 := fun _ => by kernel_rfl
theorem tl22 : TSlice Try.prog 22 1 := ⟨3, by kernel_rfl, fun _ => by kernel_rfl⟩
theorem tu22 : Try.prog.underlying 22 = some (.slice 3) := by kernel_rfl
theorem tp22 : TApp Try.prog 22 3 1 8 := tapp_of (z := .int .i64 0) (by kernel_rfl) (by kernel_rfl) (by kernel_rfl) (by decide)
def E25 : En (Int × Int) := (En.pr (En.int .i64) (En.int .i64))
abbrev R25 : Rep (Int × Int) := Rep.fl E25
abbrev R55 : Rep (List (Int × Int)) := Rep.sl R25
abbrev X55 : Ex R55 (Option Addr × Nat) := Ex.sl R25
abbrev R63 : Rep ((List (Int × Int)) × Int × Int) := (Rep.pr R55 (Rep.pr R3 R3))
abbrev X63 : Ex R63 ((Option Addr × Nat) × Unit × Unit) := (Ex.pr X55 (Ex.pr (Ex.fl E3) (Ex.fl E3)))
theorem tl23 : TSlice Try.prog 23 3 := ⟨63, by kernel_rfl, fun _ => by kernel_rfl⟩
theorem tu23 : Try.prog.underlying 23 = some (.slice 63) := by kernel_rfl
theorem tp23 : TApp Try.prog 23 63 3 40 := tapp_of (z := .agg #[.slice none 0 0, .int .i64 0, .int .i64 0]) (by kernel_rfl) (by kernel_rfl) (by kernel_rfl) (by decide)
theorem ta25 : TAgg Try.prog 25 2 := fun _ => ⟨by kernel_rfl, by kernel_rfl⟩
theorem ts25 : TSize Try.prog 25 2 := fun _ => by kernel_rfl
theorem fo25_0 : FOff Try.prog 25 0 0 := fun _ _ => by kernel_rfl
theorem fo25_1 : FOff Try.prog 25 1 1 := fun _ _ => by kernel_rfl
theorem se25 (x0 x1 y0 y1 : Int) (w : World) : (binOp .eql 25 (.agg #[.int .i64 x0, .int .i64 x1]) (.agg #[.int .i64 y0, .int .i64 y1])).run Try.prog w = .ok (.bool (decide ((x0, x1) = (y0, y1)))) w := by
  go_simp
  by_cases h0 : x0 = y0 <;> by_cases h1 : x1 = y1 <;> simp [h0, h1]
theorem sn25 (x0 x1 y0 y1 : Int) (w : World) : (binOp .neq 25 (.agg #[.int .i64 x0, .int .i64 x1]) (.agg #[.int .i64 y0, .int .i64 y1])).run Try.prog w = .ok (.bool (!decide ((x0, x1) = (y0, y1)))) w := by
  go_simp
  by_cases h0 : x0 = y0 <;> by_cases h1 : x1 = y1 <;> simp [h0, h1]
theorem sg25 : TGuard Try.prog 25 := fun op x y xs ys w => run_eqGuard_agg w op 25 x y xs ys (by kernel_rfl)
def E43 : En (Bool × (Int × Int) × (Int × Int) × (Int × Int)) := (En.pr En.bool (En.pr (En.pr (En.int .i64) (En.int .i64)) (En.pr (En.pr (En.int .i64) (En.int .i64)) (En.pr (En.int .i64) (En.int .i64)))))
abbrev R43 : Rep (Bool × (Int × Int) × (Int × Int) × (Int × Int)) := Rep.fl E43
theorem tl34 : TSlice Try.prog 34 7 := ⟨43, by kernel_rfl, fun _ => by kernel_rfl⟩
theorem tu34 : Try.prog.underlying 34 = some (.slice 43) := by kernel_rfl
theorem to35 : TOne Try.prog 35 := fun _ => by kernel_rfl
theorem ts35 : TSize Try.prog 35 1 := fun _ => by kernel_rfl
def E44 : En (Int × Int) := (En.pr (En.int .i64) (En.int .i64))
abbrev R44 : Rep (Int × Int) := Rep.fl E44
abbrev R35 : Rep (List (Int × Int)) := Rep.sl R44
abbrev X35 : Ex R35 (Option Addr × Nat) := Ex.sl R44
theorem tl35 : TSlice Try.prog 35 2 := ⟨44, by kernel_rfl, fun _ => by kernel_rfl⟩
theorem tu35 : Try.prog.underlying 35 = some (.slice 44) := by kernel_rfl
theorem tp35 : TApp Try.prog 35 44 2 16 := tapp_of (z := .agg #[.int .i64 0, .int .i64 0]) (by kernel_rfl) (by kernel_rfl) (by kernel_rfl) (by decide)
theorem to36 : TOne Try.prog 36 := fun _ => by kernel_rfl
theorem ts36 : TSize Try.prog 36 1 := fun _ => by kernel_rfl
def E92 : En ((Int × Int) × (Int × Int)) := (En.pr (En.pr (En.int .i64) (En.int .i64)) (En.pr (En.int .i64) (En.int .i64)))
abbrev R92 : Rep ((Int × Int) × (Int × Int)) := Rep.fl E92
theorem tl36 : TSlice Try.prog 36 4 := ⟨92, by kernel_rfl, fun _ => by kernel_rfl⟩
theorem tu36 : Try.prog.underlying 36 = some (.slice 92) := by kernel_rfl
theorem tp36 : TApp Try.prog 36 92 4 32 := tapp_of (z := .agg #[.int .i64 0, .int .i64 0, .int .i64 0, .int .i64 0]) (by kernel_rfl) (by kernel_rfl) (by kernel_rfl) (by decide)
theorem ta38 : TAgg Try.prog 38 3 := fun _ => ⟨by kernel_rfl, by kernel_rfl⟩
theorem ts38 : TSize Try.prog 38 3 := fun _ => by kernel_rfl
theorem fo38_0 : FOff Try.prog 38 0 0 := fun _ _ => by kernel_rfl
theorem fo38_1 : FOff Try.prog 38 1 1 := fun _ _ => by kernel_rfl
theorem fo38_2 : FOff Try.prog 38 2 2 := fun _ _ => by kernel_rfl
abbrev R91 : Rep ((List (Int × Int)) × Int × Int) := (Rep.pr R35 (Rep.pr R3 R3))
abbrev X91 : Ex R91 ((Option Addr × Nat) × Unit × Unit) := (Ex.pr X35 (Ex.pr (Ex.fl E3) (Ex.fl E3)))
theorem tl40 : TSlice Try.prog 40 3 := ⟨91, by kernel_rfl, fun _ => by kernel_rfl⟩
theorem tu40 : Try.prog.underlying 40 = some (.slice 91) := by kernel_rfl
theorem tp40 : TApp Try.prog 40 91 3 40 := tapp_of (z := .agg #[.slice none 0 0, .int .i64 0, .int .i64 0]) (by kernel_rfl) (by kernel_rfl) (by kernel_rfl) (by decide)
theorem fo43_0 : FOff Try.prog 43 0 0 := fun _ _ => by kernel_rfl
theorem fo43_1 : FOff Try.prog 43 1 1 := fun _ _ => by kernel_rfl
theorem fo43_2 : FOff Try.prog 43 2 3 := fun _ _ => by kernel_rfl
theorem fo43_3 : FOff Try.prog 43 3 5 := fun _ _ => by kernel_rfl
theorem ta44 : TAgg Try.prog 44 2 := fun _ => ⟨by kernel_rfl, by kernel_rfl⟩
theorem ts44 : TSize Try.prog 44 2 := fun _ => by kernel_rfl
theorem fo44_0 : FOff Try.prog 44 0 0 := fun _ _ => by kernel_rfl
theorem fo44_1 : FOff Try.prog 44 1 1 := fun _ _ => by kernel_rfl
theorem se44 (x0 x1 y0 y1 : Int) (w : World) : (binOp .eql 44 (.agg #[.int .i64 x0, .int .i64 x1]) (.agg #[.int .i64 y0, .int .i64 y1])).run Try.prog w = .ok (.bool (decide ((x0, x1) = (y0, y1)))) w := by
  go_simp
  by_cases h0 : x0 = y0 <;> by_cases h1 : x1 = y1 <;> simp [h0, h1]
theorem sn44 (x0 x1 y0 y1 : Int) (w : World) : (binOp .neq 44 (.agg #[.int .i64 x0, .int .i64 x1]) (.agg #[.int .i64 y0, .int .i64 y1])).run Try.prog w = .ok (.bool (!decide ((x0, x1) = (y0, y1)))) w := by
  go_simp
  by_cases h0 : x0 = y0 <;> by_cases h1 : x1 = y1 <;> simp [h0, h1]
theorem sg44 : TGuard Try.prog 44 := fun op x y xs ys w => run_eqGuard_agg w op 44 x y xs ys (by kernel_rfl)
theorem to55 : TOne Try.prog 55 := fun _ => by kernel_rfl
theorem ts55 : TSize Try.prog 55 1 := fun _ => by kernel_rfl
theorem tl55 : TSlice Try.prog 55 2 := ⟨25, by kernel_rfl, fun _ => by kernel_rfl⟩
theorem tu55 : Try.prog.underlying 55 = some (.slice 25) := by kernel_rfl
theorem tp55 : TApp Try.prog 55 25 2 16 := tapp_of (z := .agg #[.int .i64 0, .int .i64 0]) (by kernel_rfl) (by kernel_rfl) (by kernel_rfl) (by decide)
theorem ta63 : TAgg Try.prog 63 3 := fun _ => ⟨by kernel_rfl, by kernel_rfl⟩
theorem ts63 : TSize Try.prog 63 3 := fun _ => by kernel_rfl
theorem fo63_0 : FOff Try.prog 63 0 0 := fun _ _ => by kernel_rfl
theorem fo63_1 : FOff Try.prog 63 1 1 := fun _ _ => by kernel_rfl
theorem fo63_2 : FOff Try.prog 63 2 2 := fun _ _ => by kernel_rfl
theorem to70 : TOne Try.prog 70 := fun _ => by kernel_rfl
theorem fo73_0 : FOff Try.prog 73 0 0 := fun _ _ => by kernel_rfl
theorem to74 : TOne Try.prog 74 := fun _ => by kernel_rfl
theorem to75 : TOne Try.prog 75 := fun _ => by kernel_rfl
theorem fo77_0 : FOff Try.prog 77 0 0 := fun _ _ => by kernel_rfl
theorem fo77_1 : FOff Try.prog 77 1 1 := fun _ _ => by kernel_rfl
theorem fo77_2 : FOff Try.prog 77 2 2 := fun _ _ => by kernel_rfl
theorem fo77_3 : FOff Try.prog 77 3 3 := fun _ _ => by kernel_rfl
theorem fo77_4 : FOff Try.prog 77 4 4 := fun _ _ => by kernel_rfl
theorem ta80 : TAgg Try.prog 80 4 := fun _ => ⟨by kernel_rfl, by kernel_rfl⟩
theorem ts80 : TSize Try.prog 80 4 := fun _ => by kernel_rfl
def E80 : En ((Int × Int) × (Int × Int)) := (En.pr (En.pr (En.int .i64) (En.int .i64)) (En.pr (En.int .i64) (En.int .i64)))
abbrev R80 : Rep ((Int × Int) × (Int × Int)) := Rep.fl E80
theorem fo80_0 : FOff Try.prog 80 0 0 := fun _ _ => by kernel_rfl
theorem fo80_1 : FOff Try.prog 80 1 2 := fun _ _ => by kernel_rfl
theorem ta81 : TAgg Try.prog 81 4 := fun _ => ⟨by kernel_rfl, by kernel_rfl⟩
theorem ts81 : TSize Try.prog 81 4 := fun _ => by kernel_rfl
theorem se81 (x0 x1 x2 x3 y0 y1 y2 y3 : Int) (w : World) : (binOp .eql 81 (.agg #[.int .i64 x0, .int .i64 x1, .int .i64 x2, .int .i64 x3]) (.agg #[.int .i64 y0, .int .i64 y1, .int .i64 y2, .int .i64 y3])).run Try.prog w = .ok (.bool (decide (((x0, x1), (x2, x3)) = ((y0, y1), (y2, y3))))) w := by
  refine bin_eql (b := decide (((x0, x1), (x2, x3)) = ((y0, y1), (y2, y3)))) ?_
  rw [run_eqA (n := 2) 9999 _ _ (by kernel_rfl) (fun _ => by kernel_rfl : TSize Try.prog 25 2) w]
  have k3 : ∀ (d : Nat) (x y : Int) (w : World), (Op.equalIn (d + 1) 3 (.int .i64 x) (.int .i64 y)).run Try.prog w = .ok (decide (x = y)) w := fun d x y w => eq_int (by kernel_rfl) d x y
  have kq : ∀ (xs ys : Array Value) (d : Nat) (w : World), (Op.equalIn (d + 1) 25 (.agg xs) (.agg ys)).run Try.prog w = (eqF d xs ys (Try.prog.fieldsOf 25).toList).run Try.prog w := fun xs ys d w => run_eqF d xs ys (by kernel_rfl) (by kernel_rfl) w
  simp [go_sem, eqA, List.range_succ, k3, kq, eqF]
  by_cases h0 : x0 = y0 <;> by_cases h1 : x1 = y1 <;> by_cases h2 : x2 = y2 <;> by_cases h3 : x3 = y3 <;> simp [h0, h1, h2, h3]
theorem fo91_0 : FOff Try.prog 91 0 0 := fun _ _ => by kernel_rfl
theorem ta92 : TAgg Try.prog 92 4 := fun _ => ⟨by kernel_rfl, by kernel_rfl⟩
theorem to103 : TOne Try.prog 103 := fun _ => by kernel_rfl
theorem ts103 : TSize Try.prog 103 1 := fun _ => by kernel_rfl
theorem tl103 : TSlice Try.prog 103 4 := ⟨80, by kernel_rfl, fun _ => by kernel_rfl⟩
theorem tu103 : Try.prog.underlying 103 = some (.slice 80) := by kernel_rfl
theorem tp103 : TApp Try.prog 103 80 4 32 := tapp_of (z := .agg #[.int .i64 0, .int .i64 0, .int .i64 0, .int .i64 0]) (by kernel_rfl) (by kernel_rfl) (by kernel_rfl) (by decide)
theorem to104 : TOne Try.prog 104 := fun _ => by kernel_rfl
theorem fo106_0 : FOff Try.prog 106 0 0 := fun _ _ => by kernel_rfl
theorem fo106_1 : FOff Try.prog 106 1 1 := fun _ _ => by kernel_rfl
theorem fo106_2 : FOff Try.prog 106 2 2 := fun _ _ => by kernel_rfl
theorem ta111 : TAgg Try.prog 111 2 := fun _ => ⟨by kernel_rfl, by kernel_rfl⟩
theorem ts111 : TSize Try.prog 111 2 := fun _ => by kernel_rfl
theorem se111 (x0 x1 y0 y1 : Int) (w : World) : (binOp .eql 111 (.agg #[.int .i64 x0, .int .i64 x1]) (.agg #[.int .i64 y0, .int .i64 y1])).run Try.prog w = .ok (.bool (decide ((x0, x1) = (y0, y1)))) w := by
  refine bin_eql (b := decide ((x0, x1) = (y0, y1))) ?_
  rw [run_eqA (n := 2) 9999 _ _ (by kernel_rfl) (fun _ => by kernel_rfl : TSize Try.prog 3 1) w]
  have k3 : ∀ (d : Nat) (x y : Int) (w : World), (Op.equalIn (d + 1) 3 (.int .i64 x) (.int .i64 y)).run Try.prog w = .ok (decide (x = y)) w := fun d x y w => eq_int (by kernel_rfl) d x y
  simp [go_sem, eqA, List.range_succ, k3]
  by_cases h0 : x0 = y0 <;> by_cases h1 : x1 = y1 <;> simp [h0, h1]
theorem to118 : TOne Try.prog 118 := fun _ => by kernel_rfl
theorem ts118 : TSize Try.prog 118 1 := fun _ => by kernel_rfl
def vv25 (x : Int × Int) : Value := .agg #[.int .i64 x.1, .int .i64 x.2]
def vv4 (x : Bool) : Value := .bool x
theorem ko25 : KeyOk Try.prog 25 vv25 :=
  ⟨fun e k w => by
    unfold vv25
    rw [run_checkKey_struct e 9999 25 _ (by kernel_rfl) w]
    have h3 : ∀ (e : Bool) (d : Nat) (n : Int) (w : World), (Instr.checkKey e (d + 1) 3 (.int .i64 n)).run Try.prog w = .ok () w := fun e d n w => ck_int (by kernel_rfl) e d n
    simp [go_sem, chkF, h3], fun k k' w => eql_of_bin (se25 k.1 k.2 k'.1 k'.2 w), ⟨.struct (Try.prog.fieldsOf 25), by kernel_rfl, fun k k' => .inl rfl⟩, fun k => by unfold vv25; simp [Instr.sameBits, beqS]⟩
theorem tm74 : Try.prog.underlying 74 = some (.map 25 4) := by kernel_rfl
theorem tzv74 : ∀ w, (zeroValue 4).run Try.prog w = .ok (vv4 false) w := zeroValue_of (by kernel_rfl)
def vv81 (x : (Int × Int) × (Int × Int)) : Value := .agg #[.int .i64 x.1.1, .int .i64 x.1.2, .int .i64 x.2.1, .int .i64 x.2.2]
theorem ko81 : KeyOk Try.prog 81 vv81 :=
  ⟨fun e k w => by
    unfold vv81
    rw [run_checkKey_array (n := 2) e 9999 _ (by kernel_rfl) (fun _ => by kernel_rfl : TSize Try.prog 25 2) w]
    have hq : ∀ (xs : Array Value) (d : Nat) (w : World), (Instr.checkKey e (d + 1) 25 (.agg xs)).run Try.prog w = (chkF e d xs (Try.prog.fieldsOf 25).toList).run Try.prog w := fun xs d w => run_checkKey_struct e d 25 xs (by kernel_rfl) w
    have h3 : ∀ (e : Bool) (d : Nat) (n : Int) (w : World), (Instr.checkKey e (d + 1) 3 (.int .i64 n)).run Try.prog w = .ok () w := fun e d n w => ck_int (by kernel_rfl) e d n
    simp [go_sem, chkA, List.range_succ, h3, hq, chkF], fun k k' w => eql_of_bin (se81 k.1.1 k.1.2 k.2.1 k.2.2 k'.1.1 k'.1.2 k'.2.1 k'.2.2 w), ⟨.array 2 25, by kernel_rfl, fun k k' => .inl rfl⟩, fun k => by unfold vv81; simp [Instr.sameBits]⟩
theorem tm75 : Try.prog.underlying 75 = some (.map 81 4) := by kernel_rfl
theorem tzv75 : ∀ w, (zeroValue 4).run Try.prog w = .ok (vv4 false) w := zeroValue_of (by kernel_rfl)
def vv111 (x : Int × Int) : Value := .agg #[.int .i64 x.1, .int .i64 x.2]
theorem ko111 : KeyOk Try.prog 111 vv111 :=
  ⟨fun e k w => by
    unfold vv111
    rw [run_checkKey_array (n := 2) e 9999 _ (by kernel_rfl) (fun _ => by kernel_rfl : TSize Try.prog 3 1) w]
    have h3 : ∀ (e : Bool) (d : Nat) (n : Int) (w : World), (Instr.checkKey e (d + 1) 3 (.int .i64 n)).run Try.prog w = .ok () w := fun e d n w => ck_int (by kernel_rfl) e d n
    simp [go_sem, chkA, List.range_succ, h3], fun k k' w => eql_of_bin (se111 k.1 k.2 k'.1 k'.2 w), ⟨.array 2 3, by kernel_rfl, fun k k' => .inl rfl⟩, fun k => by unfold vv111; simp [Instr.sameBits]⟩
theorem tm104 : Try.prog.underlying 104 = some (.map 111 22) := by kernel_rfl
theorem tzv104 : ∀ w, (zeroValue 22).run Try.prog w = .ok (.slice none 0 0) w := zeroValue_of (by kernel_rfl)
def vv3 (x : Int) : Value := .int .i64 x
theorem ko3 : KeyOk Try.prog 3 vv3 := ko_int (by kernel_rfl)
theorem tm118 : Try.prog.underlying 118 = some (.map 3 4) := by kernel_rfl
theorem tzv118 : ∀ w, (zeroValue 4).run Try.prog w = .ok (vv4 false) w := zeroValue_of (by kernel_rfl)
theorem cf7 : CF Try.prog 7 := fun _ _ => by kernel_rfl
theorem cf8 : CF Try.prog 8 := fun _ _ => by kernel_rfl
theorem cf9 : CF Try.prog 9 := fun _ _ => by kernel_rfl
theorem cf10 : CF Try.prog 10 := fun _ _ => by kernel_rfl
theorem cf11 : CF Try.prog 11 := fun _ _ => by kernel_rfl
theorem cf12 : CF Try.prog 12 := fun _ _ => by kernel_rfl
theorem cf13 : CF Try.prog 13 := fun _ _ => by kernel_rfl
theorem cf14 : CF Try.prog 14 := fun _ _ => by kernel_rfl
theorem cf15 : CF Try.prog 15 := fun _ _ => by kernel_rfl
theorem cf16 : CF Try.prog 16 := fun _ _ => by kernel_rfl
theorem cf17 : CF Try.prog 17 := fun _ _ => by kernel_rfl
theorem cf18 : CF Try.prog 18 := fun _ _ => by kernel_rfl
theorem cf19 : CF Try.prog 19 := fun _ _ => by kernel_rfl
theorem cf20 : CF Try.prog 20 := fun _ _ => by kernel_rfl
theorem cf21 : CF Try.prog 21 := fun _ _ => by kernel_rfl
theorem cf22 : CF Try.prog 22 := fun _ _ => by kernel_rfl
theorem cf23 : CF Try.prog 23 := fun _ _ => by kernel_rfl
theorem cf24 : CF Try.prog 24 := fun _ _ => by kernel_rfl
theorem cf25 : CF Try.prog 25 := fun _ _ => by kernel_rfl
theorem cf28 : CF Try.prog 28 := fun _ _ => by kernel_rfl
theorem cf29 : CF Try.prog 29 := fun _ _ => by kernel_rfl
theorem cf30 : CF Try.prog 30 := fun _ _ => by kernel_rfl
theorem cf31 : CF Try.prog 31 := fun _ _ => by kernel_rfl
theorem cf32 : CF Try.prog 32 := fun _ _ => by kernel_rfl
theorem cf33 : CF Try.prog 33 := fun _ _ => by kernel_rfl
theorem cf34 : CF Try.prog 34 := fun _ _ => by kernel_rfl
theorem cf35 : CF Try.prog 35 := fun _ _ => by kernel_rfl
theorem cf36 : CF Try.prog 36 := fun _ _ => by kernel_rfl
theorem cf37 : CF Try.prog 37 := fun _ _ => by kernel_rfl
theorem cf38 : CF Try.prog 38 := fun _ _ => by kernel_rfl
theorem cf39 : CF Try.prog 39 := fun _ _ => by kernel_rfl
theorem cf40 : CF Try.prog 40 := fun _ _ => by kernel_rfl
theorem cf41 : CF Try.prog 41 := fun _ _ => by kernel_rfl
theorem cf42 : CF Try.prog 42 := fun _ _ => by kernel_rfl
theorem cf43 : CF Try.prog 43 := fun _ _ => by kernel_rfl
theorem cf44 : CF Try.prog 44 := fun _ _ => by kernel_rfl
theorem cf45 : CF Try.prog 45 := fun _ _ => by kernel_rfl
theorem cf46 : CF Try.prog 46 := fun _ _ => by kernel_rfl
theorem cf48 : CF Try.prog 48 := fun _ _ => by kernel_rfl
theorem cf49 : CF Try.prog 49 := fun _ _ => by kernel_rfl
theorem cf50 : CF Try.prog 50 := fun _ _ => by kernel_rfl
theorem cf51 : CF Try.prog 51 := fun _ _ => by kernel_rfl
theorem cf52 : CF Try.prog 52 := fun _ _ => by kernel_rfl
theorem cf53 : CF Try.prog 53 := fun _ _ => by kernel_rfl
theorem cf54 : CF Try.prog 54 := fun _ _ => by kernel_rfl
theorem cf55 : CF Try.prog 55 := fun _ _ => by kernel_rfl
theorem cf56 : CF Try.prog 56 := fun _ _ => by kernel_rfl
theorem cf57 : CF Try.prog 57 := fun _ _ => by kernel_rfl
theorem cf58 : CF Try.prog 58 := fun _ _ => by kernel_rfl
theorem cf59 : CF Try.prog 59 := fun _ _ => by kernel_rfl
theorem cf60 : CF Try.prog 60 := fun _ _ => by kernel_rfl
theorem cf61 : CF Try.prog 61 := fun _ _ => by kernel_rfl
theorem cf62 : CF Try.prog 62 := fun _ _ => by kernel_rfl
theorem cf63 : CF Try.prog 63 := fun _ _ => by kernel_rfl
theorem cf64 : CF Try.prog 64 := fun _ _ => by kernel_rfl
theorem cf65 : CF Try.prog 65 := fun _ _ => by kernel_rfl
theorem cf66 : CF Try.prog 66 := fun _ _ => by kernel_rfl
theorem cf67 : CF Try.prog 67 := fun _ _ => by kernel_rfl
theorem cf68 : CF Try.prog 68 := fun _ _ => by kernel_rfl
theorem cf69 : CF Try.prog 69 := fun _ _ => by kernel_rfl
theorem cf70 : CF Try.prog 70 := fun _ _ => by kernel_rfl
theorem cf71 : CF Try.prog 71 := fun _ _ => by kernel_rfl
theorem cf72 : CF Try.prog 72 := fun _ _ => by kernel_rfl
theorem cf73 : CF Try.prog 73 := fun _ _ => by kernel_rfl
end Go.Proofs.Ytoccfdohlefifaa
