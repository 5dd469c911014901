/-
  Contracts of package exact: Cross, Turn.
-/
import Derived.Test.YtefhfbefgeadaaaExact1
namespace Go.Proofs.Ytefhfbefgeadaaa
open Go.RowKit

def crossZ (a b c : Pt) : Int := (b.1 - a.1) * (c.2 - a.2) - (b.2 - a.2) * (c.1 - a.1)
def cross (a b c : Pt) : Int := if rightB a && rightB b && rightB c then crossZ a b c else 0
def turn (a b c : Pt) : Int := if 0 < cross a b c then 1 else if cross a b c < 0 then -1 else 0

theorem rightB_bd {p : Pt} (h : rightB p = true) : -16777216 ≤ p.1 ∧ p.1 ≤ 16777216 ∧ -16777216 ≤ p.2 ∧ p.2 ≤ 16777216 := by
  simp [rightB, inB] at h; omega
theorem mul_bd (x y m : Int) (hx : -m ≤ x) (hx' : x ≤ m) (hy : -m ≤ y) (hy' : y ≤ m) : -(m * m) ≤ x * y ∧ x * y ≤ m * m := by
  have h1 := Int.mul_nonneg (Int.sub_nonneg.2 hx') (Int.sub_nonneg.2 hy')
  have h2 := Int.mul_nonneg (show 0 ≤ x + m by omega) (show 0 ≤ y + m by omega)
  have h3 := Int.mul_nonneg (Int.sub_nonneg.2 hx') (show 0 ≤ y + m by omega)
  have h4 := Int.mul_nonneg (show 0 ≤ x + m by omega) (Int.sub_nonneg.2 hy')
  have e1 : (m - x) * (m - y) = m * m - m * y - m * x + x * y := by rw [Int.sub_mul, Int.mul_sub, Int.mul_sub, Int.mul_comm x m]; omega
  have e2 : (x + m) * (y + m) = x * y + m * x + m * y + m * m := by rw [Int.add_mul, Int.mul_add, Int.mul_add, Int.mul_comm x m]; omega
  have e3 : (m - x) * (y + m) = m * y + m * m - x * y - m * x := by rw [Int.sub_mul, Int.mul_add, Int.mul_add, Int.mul_comm x m]; omega
  have e4 : (x + m) * (m - y) = m * x - x * y + m * m - m * y := by rw [Int.add_mul, Int.mul_sub, Int.mul_sub, Int.mul_comm x m]; omega
  rw [e1] at h1; rw [e2] at h2; rw [e3] at h3; rw [e4] at h4
  omega

set_option maxHeartbeats 1000000 in
theorem cross_any (ax ay bx bY cx cy : Int) (w : World) :
    Calls Try.prog 23 #[.agg #[.int .i64 ax, .int .i64 ay], .agg #[.int .i64 bx, .int .i64 bY], .agg #[.int .i64 cx, .int .i64 cy]] w
      fun e w' => e = .returned (.int .i64 (cross (ax, ay) (bx, bY) (cx, cy))) ∧ Below w.heap.size w w' := by
  by_cases h : rightAll [(ax, ay), (bx, bY), (cx, cy)] = true
  · have hr := h
    simp [rightAll] at hr
    obtain ⟨ha, hb, hc⟩ := hr
    have ba := rightB_bd ha
    have bb := rightB_bd hb
    have bc := rightB_bd hc
    simp only at ba bb bc
    have m1 := mul_bd (bx - ax) (cy - ay) 33554432 (by omega) (by omega) (by omega) (by omega)
    have m2 := mul_bd (bY - ay) (cx - ax) 33554432 (by omega) (by omega) (by omega) (by omega)
    have hfin : cross (ax, ay) (bx, bY) (cx, cy) = (bx - ax) * (cy - ay) - (bY - ay) * (cx - ax) := by simp [cross, ha, hb, hc, crossZ]
    have HF := Lib.hid hfin
    have HH := Lib.hid h
    clear hfin h ha hb hc
    go_enter Try.func23, Try.ntmps23
    go_wp2_with fail
    refine (right_any _ _ _ [(ax, ay), (bx, bY), (cx, cy)] _ ?_ rfl (by simp)).mono ?_
    · exact Reads.new (by simp) (by simp) rfl rfl
    rintro e w' ⟨rfl, hb⟩
    rw [HH.out]
    obtain ⟨kc, kf⟩ := bcell hb
    go_wp2_with fail
    go_ret
    refine ⟨ret_int HF.out.symm, Below.trans ?_ (hb.mono (by simp <;> omega))⟩
    exact ((((Below.refl _ _).alloc (by simp) _).alloc (by simp <;> omega) _).alloc (by simp <;> omega) _).alloc (by simp <;> omega) _
  · have hfin : cross (ax, ay) (bx, bY) (cx, cy) = 0 := by
      rw [cross, if_neg]; intro hh; apply h; simpa [rightAll, Bool.and_assoc] using hh
    have HF := Lib.hid hfin
    have HH := Lib.hid (Bool.eq_false_iff.2 h)
    clear hfin h
    go_enter Try.func23, Try.ntmps23
    go_wp2_with fail
    refine (right_any _ _ _ [(ax, ay), (bx, bY), (cx, cy)] _ ?_ rfl (by simp)).mono ?_
    · exact Reads.new (by simp) (by simp) rfl rfl
    rintro e w' ⟨rfl, hb⟩
    rw [HH.out]
    go_wp2_with fail
    go_ret
    refine ⟨ret_int HF.out.symm, Below.trans ?_ (hb.mono (by simp <;> omega))⟩
    exact ((((Below.refl _ _).alloc (by simp) _).alloc (by simp) _).alloc (by simp <;> omega) _).alloc (by simp <;> omega) _

theorem turn_pos {a b c : Pt} (h : 0 < cross a b c) : turn a b c = 1 := by simp [turn, h]
theorem turn_neg {a b c : Pt} (h : cross a b c < 0) : turn a b c = -1 := by simp [turn, h]; omega
theorem turn_zero {a b c : Pt} (h : cross a b c = 0) : turn a b c = 0 := by simp [turn, h]

set_option maxHeartbeats 1000000 in
theorem turn_any (ax ay bx bY cx cy : Int) (w : World) :
    Calls Try.prog 24 #[.agg #[.int .i64 ax, .int .i64 ay], .agg #[.int .i64 bx, .int .i64 bY], .agg #[.int .i64 cx, .int .i64 cy]] w
      fun e w' => e = .returned (.int .i64 (turn (ax, ay) (bx, bY) (cx, cy))) ∧ Below w.heap.size w w' := by
  rcases Int.lt_trichotomy (cross (ax, ay) (bx, bY) (cx, cy)) 0 with h | h | h
  · have HF := Lib.hid (turn_neg h)
    go_enter Try.func24, Try.ntmps24
    go_wp2_with fail
    refine (cross_any _ _ _ _ _ _ _).mono ?_
    rintro e w' ⟨rfl, hb⟩
    go_wp2_with fail
    go_ret
    refine ⟨ret_int HF.out.symm, Below.trans ?_ (hb.mono (by simp <;> omega))⟩
    exact (((Below.refl _ _).alloc (by simp) _).alloc (by simp) _).alloc (by simp <;> omega) _
  · have HF := Lib.hid (turn_zero h)
    have HZ := Lib.hid h
    clear h
    go_enter Try.func24, Try.ntmps24
    go_wp2_with fail
    refine (cross_any _ _ _ _ _ _ _).mono ?_
    rintro e w' ⟨rfl, hb⟩
    rw [HZ.out]
    go_wp2_with fail
    go_ret
    refine ⟨ret_int HF.out.symm, Below.trans ?_ (hb.mono (by simp <;> omega))⟩
    exact (((Below.refl _ _).alloc (by simp) _).alloc (by simp) _).alloc (by simp <;> omega) _
  · have HF := Lib.hid (turn_pos h)
    go_enter Try.func24, Try.ntmps24
    go_wp2_with fail
    refine (cross_any _ _ _ _ _ _ _).mono ?_
    rintro e w' ⟨rfl, hb⟩
    go_wp2_with fail
    go_ret
    refine ⟨ret_int HF.out.symm, Below.trans ?_ (hb.mono (by simp <;> omega))⟩
    exact (((Below.refl _ _).alloc (by simp) _).alloc (by simp) _).alloc (by simp <;> omega) _
end Go.Proofs.Ytefhfbefgeadaaa
