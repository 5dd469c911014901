/-
  Contracts of package exact: On, Less.
-/
import Derived.Test.YtefhfbefgeadaaaExact3
namespace Go.Proofs.Ytefhfbefgeadaaa
open Go.RowKit

set_option maxHeartbeats 1000000 in
theorem on_any (ax ay bx bY px py : Int) (w : World) :
    Calls Try.prog 30 #[.agg #[.int .i64 ax, .int .i64 ay], .agg #[.int .i64 bx, .int .i64 bY], .agg #[.int .i64 px, .int .i64 py]] w
      fun e w' => e = .returned (.bool (onB (ax, ay) (bx, bY) (px, py))) ∧ Below w.heap.size w w' := by
  by_cases h1 : rightAll [(ax, ay), (bx, bY), (px, py)] = true
  · by_cases h2 : turn (ax, ay) (bx, bY) (px, py) = 0
    · have HF := Lib.hid (show onB (ax, ay) (bx, bY) (px, py) = betweenB (ax, ay) (bx, bY) (px, py) by simp [onB, h1, h2])
      have H1 := Lib.hid h1
      have H2 := Lib.hid h2
      clear h1 h2
      go_enter Try.func30, Try.ntmps30
      go_wp2_with fail
      refine (right_any _ _ _ [(ax, ay), (bx, bY), (px, py)] _ ?_ rfl (by simp)).mono ?_
      · exact Reads.new (by simp) (by simp) rfl rfl
      rintro e w1 ⟨rfl, hb1⟩
      rw [H1.out]
      obtain ⟨kc, kf⟩ := bcell hb1
      go_wp2_with fail
      refine (turn_any _ _ _ _ _ _ _).mono ?_
      rintro e w2 ⟨rfl, hb2⟩
      rw [H2.out]
      replace hb2 := hb1.trans (hb2.mono hb1.size)
      obtain ⟨kc2, kf2⟩ := bcell hb2
      go_wp2_with fail
      refine (between_any _ _ _ _ _ _ _).mono ?_
      rintro e w3 ⟨rfl, hb3⟩
      replace hb3 := hb2.trans (hb3.mono hb2.size)
      go_wp2_with fail
      go_ret
      refine ⟨ret_bool HF.out.symm, Below.trans ?_ (hb3.mono (by simp <;> omega))⟩
      exact ((((Below.refl _ _).alloc (by simp) _).alloc (by simp) _).alloc (by simp <;> omega) _).alloc (by simp <;> omega) _
    · have HF := Lib.hid (show onB (ax, ay) (bx, bY) (px, py) = false by simp [onB, h1, h2])
      have H1 := Lib.hid h1
      have H2 := Lib.hid (show (turn (ax, ay) (bx, bY) (px, py) == 0) = false by simp [h2])
      clear h1 h2
      go_enter Try.func30, Try.ntmps30
      go_wp2_with fail
      refine (right_any _ _ _ [(ax, ay), (bx, bY), (px, py)] _ ?_ rfl (by simp)).mono ?_
      · exact Reads.new (by simp) (by simp) rfl rfl
      rintro e w1 ⟨rfl, hb1⟩
      rw [H1.out]
      obtain ⟨kc, kf⟩ := bcell hb1
      go_wp2_with fail
      refine (turn_any _ _ _ _ _ _ _).mono ?_
      rintro e w2 ⟨rfl, hb2⟩
      have h2 := H2.out
      replace hb2 := hb1.trans (hb2.mono hb1.size)
      obtain ⟨kc2, kf2⟩ := bcell hb2
      go_wp2_with fail
      go_ret
      refine ⟨ret_bool HF.out.symm, Below.trans ?_ (hb2.mono (by simp <;> omega))⟩
      exact ((((Below.refl _ _).alloc (by simp) _).alloc (by simp) _).alloc (by simp <;> omega) _).alloc (by simp <;> omega) _
  · have HF := Lib.hid (show onB (ax, ay) (bx, bY) (px, py) = false by simp [onB, h1])
    have H1 := Lib.hid (Bool.eq_false_iff.2 h1)
    clear h1
    go_enter Try.func30, Try.ntmps30
    go_wp2_with fail
    refine (right_any _ _ _ [(ax, ay), (bx, bY), (px, py)] _ ?_ rfl (by simp)).mono ?_
    · exact Reads.new (by simp) (by simp) rfl rfl
    rintro e w1 ⟨rfl, hb1⟩
    rw [H1.out]
    go_wp2_with fail
    go_ret
    refine ⟨ret_bool HF.out.symm, Below.trans ?_ (hb1.mono (by simp <;> omega))⟩
    exact ((((Below.refl _ _).alloc (by simp) _).alloc (by simp) _).alloc (by simp <;> omega) _).alloc (by simp <;> omega) _
end Go.Proofs.Ytefhfbefgeadaaa
