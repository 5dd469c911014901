/-
  The law ExactTurns: whatever the input, the call returns true, and nothing that was there turns. Conditions: none.
-/
import Derived.Test.YtefhfbefgeadaaaKnown01
import Derived.Test.YtefhfbefgeadaaaGeo02
import Derived.Test.YtefhfbefgeadaaaFrame
import Derived.Deep.RegionHeld3
import Derived.Deep.DeepCutAuto
namespace Go.Proofs.Ytefhfbefgeadaaa
open Go.RowKit

set_option maxRecDepth 100000 in
set_option maxHeartbeats 4000000 in
theorem exactTurns_core (ax ay bx bY cx cy px py : Int) (w : World) :
    Calls Try.prog 7 #[.agg #[.int .i64 ax, .int .i64 ay], .agg #[.int .i64 bx, .int .i64 bY], .agg #[.int .i64 cx, .int .i64 cy], .agg #[.int .i64 px, .int .i64 py]] w fun e w' => e = .returned (.bool true) ∧ Below w.heap.size w w' := by
  have n0 := cross_bd (ax, ay) (bx, bY) (cx, cy)
  have C0 := Lib.hid (fun W => cross_any ax ay bx bY cx cy W)
  have C1 := Lib.hid (fun W => crossT_swap (ax, ay) (bx, bY) (cx, cy) ▸ cross_any bx bY ax ay cx cy W)
  have C2 := Lib.hid (fun W => crossT_turn (ax, ay) (bx, bY) (cx, cy) ▸ cross_any bx bY cx cy ax ay W)
  have C3 := Lib.hid (fun W => crossT_turn2 (ax, ay) (bx, bY) (cx, cy) ▸ cross_any cx cy ax ay bx bY W)
  have C4 := Lib.hid (fun W => crossT_same (ax, ay) (bx, bY) ▸ cross_any ax ay bx bY bx bY W)
  have I0 := Lib.hid (fun W => intri_any ax ay bx bY cx cy px py W)
  have I1 := Lib.hid (fun W => intriB_turn (ax, ay) (bx, bY) (cx, cy) (px, py) ▸ intri_any bx bY cx cy ax ay px py W)
  have I2 := Lib.hid (fun W => intriB_swap (ax, ay) (bx, bY) (cx, cy) (px, py) ▸ intri_any bx bY ax ay cx cy px py W)
  have O0 := Lib.hid (fun W => on_any ax ay bx bY px py W)
  have O1 := Lib.hid (fun W => onB_swap (ax, ay) (bx, bY) (px, py) ▸ on_any bx bY ax ay px py W)
  generalize cross (ax, ay) (bx, bY) (cx, cy) = n at *
  generalize hi : intriB (ax, ay) (bx, bY) (cx, cy) (px, py) = i at *
  generalize ho : onB (ax, ay) (bx, bY) (px, py) = o at *
  have HI := Lib.hid hi
  have HO := Lib.hid ho
  clear hi ho
  go_enter Try.func7, Try.ntmps7
  go_wp2_with fail
  refine (C0.out _).mono ?_
  rintro e w1 ⟨rfl, hb1⟩
  obtain ⟨kc1, kf1⟩ := bcell hb1
  go_wp2_with fail
  refine (C1.out _).mono ?_
  rintro e w2 ⟨rfl, hb2⟩
  replace hb2 := hb1.trans (hb2.mono hb1.size)
  obtain ⟨kc2, kf2⟩ := bcell hb2
  go_wp2_with fail
  refine (C2.out _).mono ?_
  rintro e w3 ⟨rfl, hb3⟩
  replace hb3 := hb2.trans (hb3.mono hb2.size)
  obtain ⟨kc3, kf3⟩ := bcell hb3
  go_wp2_with fail
  refine (C3.out _).mono ?_
  rintro e w4 ⟨rfl, hb4⟩
  replace hb4 := hb3.trans (hb4.mono hb3.size)
  obtain ⟨kc4, kf4⟩ := bcell hb4
  go_wp2_with fail
  refine (C4.out _).mono ?_
  rintro e w5 ⟨rfl, hb5⟩
  replace hb5 := hb4.trans (hb5.mono hb4.size)
  obtain ⟨kc5, kf5⟩ := bcell hb5
  go_wp2_with fail
  refine (I0.out _).mono ?_
  rintro e w6 ⟨rfl, hb6⟩
  replace hb6 := hb5.trans (hb6.mono hb5.size)
  obtain ⟨kc6, kf6⟩ := bcell hb6
  have hz6 := hb6.size
  simp at hz6
  have H6 : Below w.heap.size w w6 := Below.trans (by repeat (first | exact Below.refl _ _ | refine Below.drew ?_ | refine Below.alloc ?_ (by simp <;> omega) _)) (hb6.mono (by simp <;> omega))
  have q0 : w6.cell? ⟨w.heap.size, 0, none⟩ = some (.int .i64 ax) := by go_simp
  have q1 : w6.cell? ⟨w.heap.size, 1, none⟩ = some (.int .i64 ay) := by go_simp
  have q2 : w6.cell? ⟨w.heap.size + 1, 0, none⟩ = some (.int .i64 bx) := by go_simp
  have q3 : w6.cell? ⟨w.heap.size + 1, 1, none⟩ = some (.int .i64 bY) := by go_simp
  have q4 : w6.cell? ⟨w.heap.size + 1 + 1, 0, none⟩ = some (.int .i64 cx) := by go_simp
  have q5 : w6.cell? ⟨w.heap.size + 1 + 1, 1, none⟩ = some (.int .i64 cy) := by go_simp
  have q6 : w6.cell? ⟨w.heap.size + 1 + 1 + 1, 0, none⟩ = some (.int .i64 px) := by go_simp
  have q7 : w6.cell? ⟨w.heap.size + 1 + 1 + 1, 1, none⟩ = some (.int .i64 py) := by go_simp
  clear kc1 kf1 kc2 kf2 kc3 kf3 kc4 kf4 kc5 kf5 kc6 kf6 hb1 hb2 hb3 hb4 hb5 hb6
  have HB := Below.refl w6.heap.size w6
  go_upto_region 5 with fail
  go_cut [76] (fun s76 wx => s76 = .bool false ∧ wx.cell? ⟨w.heap.size, 0, none⟩ = some (.int .i64 ax) ∧ wx.cell? ⟨w.heap.size, 1, none⟩ = some (.int .i64 ay) ∧ wx.cell? ⟨w.heap.size + 1, 0, none⟩ = some (.int .i64 bx) ∧ wx.cell? ⟨w.heap.size + 1, 1, none⟩ = some (.int .i64 bY) ∧ wx.cell? ⟨w.heap.size + 1 + 1, 0, none⟩ = some (.int .i64 cx) ∧ wx.cell? ⟨w.heap.size + 1 + 1, 1, none⟩ = some (.int .i64 cy) ∧ wx.cell? ⟨w.heap.size + 1 + 1 + 1, 0, none⟩ = some (.int .i64 px) ∧ wx.cell? ⟨w.heap.size + 1 + 1 + 1, 1, none⟩ = some (.int .i64 py) ∧ Below w6.heap.size w6 wx)
  case first =>
    cases i
    all_goals
      cases o
      all_goals
        go_region_held3 (fun w' => w'.cell? ⟨w.heap.size, 0, none⟩ = some (.int .i64 ax) ∧ w'.cell? ⟨w.heap.size, 1, none⟩ = some (.int .i64 ay) ∧ w'.cell? ⟨w.heap.size + 1, 0, none⟩ = some (.int .i64 bx) ∧ w'.cell? ⟨w.heap.size + 1, 1, none⟩ = some (.int .i64 bY) ∧ w'.cell? ⟨w.heap.size + 1 + 1, 0, none⟩ = some (.int .i64 cx) ∧ w'.cell? ⟨w.heap.size + 1 + 1, 1, none⟩ = some (.int .i64 cy) ∧ w'.cell? ⟨w.heap.size + 1 + 1 + 1, 0, none⟩ = some (.int .i64 px) ∧ w'.cell? ⟨w.heap.size + 1 + 1 + 1, 1, none⟩ = some (.int .i64 py) ∧ Below w6.heap.size w6 w')
          (first | exact ⟨q0, q1, q2, q3, q4, q5, q6, q7, HB.drew⟩ | go_keep | (go_split_ands; have hbs : w6.heap.size ≤ _ := Below.size (by assumption); refine ⟨?_, ?_, ?_, ?_, ?_, ?_, ?_, ?_, ?_⟩ <;> (first | (rw [hbk.cell (by simp <;> omega)]; assumption) | (refine Below.trans ?_ (hbk.mono hbs); assumption))))
          ((first | (go_at_call 31; (first | (with_reducible refine (I1.out _).mono ?_) | (with_reducible refine (I2.out _).mono ?_)); rintro e w5 ⟨rfl, hbk⟩) | (go_at_call 30; (first | (with_reducible refine (O0.out _).mono ?_) | (with_reducible refine (O1.out _).mono ?_)); rintro e w5 ⟨rfl, hbk⟩)))
        go_wp2_with fail
        go_meet
        go_split_ands
        exact ⟨rfl, by assumption, by assumption, by assumption, by assumption, by assumption, by assumption, by assumption, by assumption, by assumption⟩
  case rest =>
    obtain ⟨rfl, r0, r1, r2, r3, r4, r5, r6, r7, hbc⟩ := hcut
    have hzc := hbc.size
    have z0 : w.heap.size < wc.heap.size := by omega
    have y0 : w.heap.size < wc.heap.size + 1 := by omega
    have z1 : w.heap.size + 1 < wc.heap.size := by omega
    have y1 : w.heap.size + 1 < wc.heap.size + 1 := by omega
    have z2 : w.heap.size + 1 + 1 < wc.heap.size := by omega
    have y2 : w.heap.size + 1 + 1 < wc.heap.size + 1 := by omega
    have z3 : w.heap.size + 1 + 1 + 1 < wc.heap.size := by omega
    have y3 : w.heap.size + 1 + 1 + 1 < wc.heap.size + 1 := by omega
    clear q0 q1 q2 q3 q4 q5 q6 q7
    by_cases hR : rightAll [(ax, ay), (bx, bY), (cx, cy)] = true
    · have HR := Lib.hid hR
      have h1 := right_and hR (show (ax, ay) ∈ _ by simp)
      have h2 := right_and hR (show (bx, bY) ∈ _ by simp)
      have h3 := right_and hR (show (cx, cy) ∈ _ by simp)
      have hc := intriB_corners h1 h2 h3
      have J1 := Lib.hid (fun W => hc.1 ▸ intri_any ax ay bx bY cx cy ax ay W)
      have J2 := Lib.hid (fun W => hc.2.1 ▸ intri_any ax ay bx bY cx cy bx bY W)
      have J3 := Lib.hid (fun W => hc.2.2 ▸ intri_any ax ay bx bY cx cy cx cy W)
      have J4 := Lib.hid (fun W => onB_last h1 h2 ▸ on_any ax ay bx bY bx bY W)
      have HP := Lib.hid (onB_point (p := (px, py)) h1 h2)
      have J5 := Lib.hid (fun W => on_any ax ay ax ay px py W)
      clear h1 h2 h3 hc hR
      go_wp2_with fail
      refine (right_any _ _ _ [(ax, ay), (bx, bY), (cx, cy)] _ ?_ rfl (by simp)).mono ?_
      · exact Reads.new (by simp) (by simp) rfl rfl
      rintro e w1 ⟨rfl, hb1⟩
      rw [HR.out]
      obtain ⟨kc1, kf1⟩ := bcell hb1
      go_wp2_with fail
      refine (known_any _).mono ?_
      rintro e w2 ⟨rfl, hb2⟩
      replace hb2 := hb1.trans (hb2.mono hb1.size)
      obtain ⟨kc2, kf2⟩ := bcell hb2
      go_wp2_with fail
      refine (J1.out _).mono ?_
      rintro e w3 ⟨rfl, hb3⟩
      replace hb3 := hb2.trans (hb3.mono hb2.size)
      obtain ⟨kc3, kf3⟩ := bcell hb3
      go_wp2_with fail
      refine (J2.out _).mono ?_
      rintro e w4 ⟨rfl, hb4⟩
      replace hb4 := hb3.trans (hb4.mono hb3.size)
      obtain ⟨kc4, kf4⟩ := bcell hb4
      go_wp2_with fail
      refine (J3.out _).mono ?_
      rintro e w5 ⟨rfl, hb5⟩
      replace hb5 := hb4.trans (hb5.mono hb4.size)
      obtain ⟨kc5, kf5⟩ := bcell hb5
      go_wp2_with fail
      refine (J4.out _).mono ?_
      rintro e w7 ⟨rfl, hb7⟩
      replace hb7 := hb5.trans (hb7.mono hb5.size)
      obtain ⟨kc7, kf7⟩ := bcell hb7
      go_wp2_with fail
      refine (O0.out _).mono ?_
      rintro e w8 ⟨rfl, hb8⟩
      replace hb8 := hb7.trans (hb8.mono hb7.size)
      obtain ⟨kc8, kf8⟩ := bcell hb8
      cases o
      · have HQ := Lib.hid (show onB (ax, ay) (ax, ay) (px, py) = false by
          apply Bool.eq_false_iff.2; intro h; have := HP.out h; rw [HO.out] at this; cases this)
        go_wp2_with fail
        refine (J5.out _).mono ?_
        rintro e w9 ⟨rfl, hb9⟩
        replace hb9 := hb8.trans (hb9.mono hb8.size)
        rw [HQ.out]
        go_wp2_with fail
        go_ret
        refine ⟨rfl, H6.trans ((hbc.mono H6.size).trans ?_)⟩
        exact (((Below.refl _ _).alloc (Nat.le_refl _) _).trans (hb9.mono (by simp))).mono (by omega)
      · go_wp2_with fail
        go_ret
        refine ⟨rfl, H6.trans ((hbc.mono H6.size).trans ?_)⟩
        exact (((Below.refl _ _).alloc (Nat.le_refl _) _).trans (hb8.mono (by simp))).mono (by omega)
    · have HR := Lib.hid (Bool.eq_false_iff.2 hR)
      have hif : i = false := by
        rw [← HI.out]; apply intriB_false; intro h; apply hR; simp [rightAll, h.1, h.2.1, h.2.2.1]
      clear hR
      subst hif
      go_wp2_with fail
      refine (right_any _ _ _ [(ax, ay), (bx, bY), (cx, cy)] _ ?_ rfl (by simp)).mono ?_
      · exact Reads.new (by simp) (by simp) rfl rfl
      rintro e w1 ⟨rfl, hb1⟩
      rw [HR.out]
      go_wp2_with fail
      refine (known_any _).mono ?_
      rintro e w2 ⟨rfl, hb2⟩
      replace hb2 := hb1.trans (hb2.mono hb1.size)
      go_wp2_with fail
      go_ret
      refine ⟨rfl, H6.trans ((hbc.mono H6.size).trans ?_)⟩
      exact (((Below.refl _ _).alloc (Nat.le_refl _) _).trans (hb2.mono (by simp))).mono (by omega)

theorem exactTurns_walk (ax ay : Int) (_ : PtOk (ax, ay)) (bx bY : Int) (_ : PtOk (bx, bY)) (cx cy : Int) (_ : PtOk (cx, cy)) (px py : Int) (_ : PtOk (px, py)) (w : World) :
    Calls Try.prog 7 #[.agg #[.int .i64 ax, .int .i64 ay], .agg #[.int .i64 bx, .int .i64 bY], .agg #[.int .i64 cx, .int .i64 cy], .agg #[.int .i64 px, .int .i64 py]] w fun e w' => e = .returned (.bool true) ∧ Below w.heap.size w w' :=
  exactTurns_core ax ay bx bY cx cy px py w
end Go.Proofs.Ytefhfbefgeadaaa
