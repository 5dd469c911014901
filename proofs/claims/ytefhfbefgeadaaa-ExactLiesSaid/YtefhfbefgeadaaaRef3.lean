/-
  Contracts of the document's answer for layer 1: Less, On, In (of points that may be).
-/
import Derived.Test.YtefhfbefgeadaaaGeo01
namespace Go.Proofs.Ytefhfbefgeadaaa
open Go.RowKit

set_option maxHeartbeats 1000000 in
theorem refLess_any (ax ay bx bY : Int) (w : World) :
    Calls Try.prog 22 #[.agg #[.int .i64 ax, .int .i64 ay], .agg #[.int .i64 bx, .int .i64 bY]] w
      fun e w' => e = .returned (.bool (lessB (ax, ay) (bx, bY))) ∧ Below w.heap.size w w' := by
  by_cases h : ax = bx
  · subst h
    have HF := Lib.hid (show lessB (ax, ay) (ax, bY) = decide (ay < bY) by simp [lessB])
    go_enter Try.func22, Try.ntmps22
    go_wp2
    go_ret
    exact ⟨ret_bool HF.out.symm, ((Below.refl _ _).alloc (by simp) _).alloc (by simp) _⟩
  · have HF := Lib.hid (show lessB (ax, ay) (bx, bY) = decide (ax < bx) by simp [lessB, h])
    have h1 : (ax != bx) = true := by simp [h]
    clear h
    go_enter Try.func22, Try.ntmps22
    go_wp2
    go_ret
    exact ⟨ret_bool HF.out.symm, ((Below.refl _ _).alloc (by simp) _).alloc (by simp) _⟩

set_option maxHeartbeats 2000000 in
theorem refOn_any (ax ay bx bY px py : Int) (w : World) (ha : rightB (ax, ay) = true) (hb : rightB (bx, bY) = true) (hp : rightB (px, py) = true) :
    Calls Try.prog 28 #[.agg #[.int .i64 ax, .int .i64 ay], .agg #[.int .i64 bx, .int .i64 bY], .agg #[.int .i64 px, .int .i64 py]] w
      fun e w' => e = .returned (.bool (refOn (ax, ay) (bx, bY) (px, py))) ∧ Below w.heap.size w w' := by
  have b1 := rightB_bd ha
  have b2 := rightB_bd hb
  have b3 := rightB_bd hp
  simp only at b1 b2 b3
  by_cases hab : ax = bx ∧ ay = bY
  · obtain ⟨rfl, rfl⟩ := hab
    have HF := Lib.hid (show refOn (ax, ay) (ax, ay) (px, py) = decide (px = ax ∧ py = ay) by
      rw [refOn, if_pos rfl, Bool.eq_iff_iff, decide_eq_true_eq, decide_eq_true_eq]; exact ⟨fun h => by injection h with h1 h2; exact ⟨h1, h2⟩, fun h => by rw [h.1, h.2]⟩)
    clear ha hb hp
    by_cases h1 : px = ax
    · by_cases h2 : py = ay
      all_goals
        go_enter Try.func28, Try.ntmps28
        go_wp2
        go_ret
        exact ⟨ret_bool (by rw [HF.out]; simp [h1, h2]), (((Below.refl _ _).alloc (by simp) _).alloc (by simp) _).alloc (by simp <;> omega) _⟩
    · go_enter Try.func28, Try.ntmps28
      go_wp2
      go_ret
      exact ⟨ret_bool (by rw [HF.out]; simp [h1]), (((Below.refl _ _).alloc (by simp) _).alloc (by simp) _).alloc (by simp <;> omega) _⟩
  · have hne : (ax, ay) ≠ (bx, bY) := by intro h; injection h with h1 h2; exact hab ⟨h1, h2⟩
    have m1 := mul_bd (px - ax) (bx - ax) 33554432 (by omega) (by omega) (by omega) (by omega)
    have m2 := mul_bd (py - ay) (bY - ay) 33554432 (by omega) (by omega) (by omega) (by omega)
    have m3 := mul_bd (bx - ax) (bx - ax) 33554432 (by omega) (by omega) (by omega) (by omega)
    have m4 := mul_bd (bY - ay) (bY - ay) 33554432 (by omega) (by omega) (by omega) (by omega)
    have HF := Lib.hid (show refOn (ax, ay) (bx, bY) (px, py) = (crossZ (ax, ay) (bx, bY) (px, py) == 0 && (decide (0 ≤ (px - ax) * (bx - ax) + (py - ay) * (bY - ay)) && decide ((px - ax) * (bx - ax) + (py - ay) * (bY - ay) ≤ (bx - ax) * (bx - ax) + (bY - ay) * (bY - ay)))) by
      rw [refOn, if_neg hne]; rfl)
    have HA := Lib.hid ha
    have HB := Lib.hid hb
    have HP := Lib.hid hp
    clear ha hb hp hne
    generalize hz : (crossZ (ax, ay) (bx, bY) (px, py) == 0) = z at *
    have HZ := Lib.hid hz
    clear hz
    rcases (show (¬ 0 ≤ (px - ax) * (bx - ax) + (py - ay) * (bY - ay)) ∨ (0 ≤ (px - ax) * (bx - ax) + (py - ay) * (bY - ay)) by omega) with h2 | h2
    all_goals
      rcases (show (ax = bx ∧ ay ≠ bY) ∨ ax ≠ bx by omega) with ⟨rfl, h⟩ | h
      all_goals
        cases z
        all_goals
          go_enter Try.func28, Try.ntmps28
          go_wp2_with fail
          refine (refCross_any _ _ _ _ _ _ _ HA.out HB.out HP.out).mono ?_
          rintro e w1 ⟨rfl, hb1⟩
          have hz := HZ.out
          go_wp2_with fail
          go_ret
          refine ⟨ret_bool ?_, Below.trans ((((Below.refl _ _).alloc (by simp) _).alloc (by simp) _).alloc (by simp <;> omega) _) (hb1.mono (by simp <;> omega))⟩
          rw [HF.out]
          first | (simp [h2]; done) | (simp [h2]; omega)

end Go.Proofs.Ytefhfbefgeadaaa
