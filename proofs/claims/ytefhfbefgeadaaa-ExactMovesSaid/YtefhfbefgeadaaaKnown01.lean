/-
  The chapter's examples of layer 1: 'known' returns true.
-/
import Derived.Test.YtefhfbefgeadaaaExact2
import Derived.Test.YtefhfbefgeadaaaExact5
namespace Go.Proofs.Ytefhfbefgeadaaa
open Go.RowKit

set_option maxHeartbeats 1000000 in
theorem known_any (w : World) : Calls Try.prog 15 #[] w fun e w' => e = .returned (.bool true) ∧ Below w.heap.size w w' := by
  have e1 : roundZ (-1) 2 = 0 := by decide
  have e2 : roundZ (-3) 2 = -1 := by decide
  have e3 : shiftZ 6 2 = 2 := by decide
  have e4 : cross (0, 0) (4, 0) (0, 3) = 12 := by decide
  have q1 : quoB (-1) 2 = true := by decide
  have q2 : quoB (-3) 2 = true := by decide
  have q3 : shiftB 6 2 = true := by decide
  have E1 := Lib.hid e1
  have E2 := Lib.hid e2
  have E3 := Lib.hid e3
  have E4 := Lib.hid e4
  have Q1 := Lib.hid q1
  have Q2 := Lib.hid q2
  have Q3 := Lib.hid q3
  clear e1 e2 e3 e4 q1 q2 q3
  go_enter Try.func15, Try.ntmps15
  go_wp2_with fail
  refine (round_any (-1) 2 _).mono ?_
  rintro e w' ⟨rfl, rfl⟩
  rw [E1.out, Q1.out]
  go_wp2_with fail
  refine (round_any (-3) 2 _).mono ?_
  rintro e w' ⟨rfl, rfl⟩
  rw [E2.out, Q2.out]
  go_wp2_with fail
  refine (shift_any 6 2 _).mono ?_
  rintro e w' ⟨rfl, rfl⟩
  rw [E3.out, Q3.out]
  go_wp2_with fail
  refine (cross_any _ _ _ _ _ _ _).mono ?_
  rintro e w' ⟨rfl, hb⟩
  rw [E4.out]
  go_wp2_with fail
  go_ret
  exact ⟨rfl, hb⟩
end Go.Proofs.Ytefhfbefgeadaaa
