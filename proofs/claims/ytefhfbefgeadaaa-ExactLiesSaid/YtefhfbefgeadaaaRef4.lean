/-
  Contract of the document's answer for layer 1: In (of points that may be).
-/
import Derived.Test.YtefhfbefgeadaaaRef3
import Derived.Deep.RegionHeld3
namespace Go.Proofs.Ytefhfbefgeadaaa
open Go.RowKit

set_option maxHeartbeats 4000000 in
theorem refIn_any (ax ay bx bY cx cy px py : Int) (w : World) (ha : rightB (ax, ay) = true) (hb : rightB (bx, bY) = true) (hc : rightB (cx, cy) = true) (hp : rightB (px, py) = true) :
    Calls Try.prog 29 #[.agg #[.int .i64 ax, .int .i64 ay], .agg #[.int .i64 bx, .int .i64 bY], .agg #[.int .i64 cx, .int .i64 cy], .agg #[.int .i64 px, .int .i64 py]] w
      fun e w' => e = .returned (.bool (refIn (ax, ay) (bx, bY) (cx, cy) (px, py))) ∧ Below w.heap.size w w' := by
  generalize hr : refIn (ax, ay) (bx, bY) (cx, cy) (px, py) = R
  rw [refIn] at hr
  have c1 := fun W => refOn_any ax ay bx bY px py W ha hb hp
  have c2 := fun W => refOn_any bx bY cx cy px py W hb hc hp
  have c3 := fun W => refOn_any cx cy ax ay px py W hc ha hp
  generalize refOn (ax, ay) (bx, bY) (px, py) = r1 at *
  generalize refOn (bx, bY) (cx, cy) (px, py) = r2 at *
  generalize refOn (cx, cy) (ax, ay) (px, py) = r3 at *
  have C1 := Lib.hid c1
  have C2 := Lib.hid c2
  have C3 := Lib.hid c3
  clear c1 c2 c3
  have HR := Lib.hid hr
  clear hr
  go_enter Try.func29, Try.ntmps29
  go_wp2_with fail
  refine (C1.out _).mono ?_
  rintro e w1 ⟨rfl, hb1⟩
  obtain ⟨kc, kf⟩ := bcell hb1
  cases r1
  · go_wp2_with fail
    refine (C2.out _).mono ?_
    rintro e w2 ⟨rfl, hb2⟩
    replace hb2 := hb1.trans (hb2.mono hb1.size)
    obtain ⟨kc2, kf2⟩ := bcell hb2
    cases r2
    · go_wp2_with fail
      refine (C3.out _).mono ?_
      rintro e w3 ⟨rfl, hb3⟩
      replace hb3 := hb2.trans (hb3.mono hb2.size)
      cases r3
      · have H1 : Below w.heap.size w w3 := Below.trans (by repeat (first | exact Below.refl _ _ | refine Below.drew ?_ | refine Below.alloc ?_ (by simp <;> omega) _)) (hb3.mono (by simp <;> omega))
        have hz3 := hb3.size
        simp at hz3
        obtain ⟨kc3, kf3⟩ := bcell hb3
        have q0 : w3.cell? ⟨w.heap.size, 0, none⟩ = some (.int .i64 ax) := by go_simp
        have q1 : w3.cell? ⟨w.heap.size, 1, none⟩ = some (.int .i64 ay) := by go_simp
        have q2 : w3.cell? ⟨w.heap.size + 1, 0, none⟩ = some (.int .i64 bx) := by go_simp
        have q3 : w3.cell? ⟨w.heap.size + 1, 1, none⟩ = some (.int .i64 bY) := by go_simp
        have q4 : w3.cell? ⟨w.heap.size + 1 + 1, 0, none⟩ = some (.int .i64 cx) := by go_simp
        have q5 : w3.cell? ⟨w.heap.size + 1 + 1, 1, none⟩ = some (.int .i64 cy) := by go_simp
        have q6 : w3.cell? ⟨w.heap.size + 1 + 1 + 1, 0, none⟩ = some (.int .i64 px) := by go_simp
        have q7 : w3.cell? ⟨w.heap.size + 1 + 1 + 1, 1, none⟩ = some (.int .i64 py) := by go_simp
        clear kc kf kc2 kf2 kc3 kf3 hb1 hb2 hb3
        have HB := Below.refl w3.heap.size w3
        go_wp2_with fail
        go_region_held3 (fun w' => w'.cell? ⟨w.heap.size, 0, none⟩ = some (.int .i64 ax) ∧ w'.cell? ⟨w.heap.size, 1, none⟩ = some (.int .i64 ay) ∧ w'.cell? ⟨w.heap.size + 1, 0, none⟩ = some (.int .i64 bx) ∧ w'.cell? ⟨w.heap.size + 1, 1, none⟩ = some (.int .i64 bY) ∧ w'.cell? ⟨w.heap.size + 1 + 1, 0, none⟩ = some (.int .i64 cx) ∧ w'.cell? ⟨w.heap.size + 1 + 1, 1, none⟩ = some (.int .i64 cy) ∧ w'.cell? ⟨w.heap.size + 1 + 1 + 1, 0, none⟩ = some (.int .i64 px) ∧ w'.cell? ⟨w.heap.size + 1 + 1 + 1, 1, none⟩ = some (.int .i64 py) ∧ Below w3.heap.size w3 w')
          (first | exact ⟨q0, q1, q2, q3, q4, q5, q6, q7, HB.drew⟩ | go_keep | (go_split_ands; have hbs : w3.heap.size ≤ _ := Below.size (by assumption); refine ⟨?_, ?_, ?_, ?_, ?_, ?_, ?_, ?_, ?_⟩ <;> (first | (rw [hbk.cell (by simp <;> omega)]; assumption) | (refine Below.trans ?_ (hbk.mono hbs); assumption))))
          ((first | (go_at_call 18; refine (refCross_any _ _ _ _ _ _ _ (by assumption) (by assumption) (by assumption)).mono ?_; rintro e w5 ⟨rfl, hbk⟩) | (go_at_call 25; refine (refSign_any _ _).mono ?_; rintro e w5 ⟨rfl, rfl⟩)))
        obtain ⟨b1, h1⟩ : ∃ b, (signZ (crossZ (ax, ay) (bx, bY) (px, py)) == signZ (crossZ (bx, bY) (cx, cy) (px, py))) = b := ⟨_, rfl⟩
        obtain ⟨b2, h2⟩ : ∃ b, (signZ (crossZ (bx, bY) (cx, cy) (px, py)) == signZ (crossZ (cx, cy) (ax, ay) (px, py))) = b := ⟨_, rfl⟩
        obtain ⟨b3, h3⟩ : ∃ b, (signZ (crossZ (ax, ay) (bx, bY) (px, py)) != 0) = b := ⟨_, rfl⟩
        have HR2 := Lib.hid (show R = (b1 && (b2 && b3)) by rw [← HR.out, h1, h2, h3]; rfl)
        cases b1
        · go_wp2_with fail
          go_ret
          refine ⟨ret_bool (by rw [HR2.out]; rfl), H1.trans ?_⟩
          refine Below.mono (B := w3.heap.size) ?_ H1.size
          go_split_ands
          assumption
        · cases b2
          · go_wp2_with fail
            go_ret
            refine ⟨ret_bool (by rw [HR2.out]; rfl), H1.trans ?_⟩
            refine Below.mono (B := w3.heap.size) ?_ H1.size
            go_split_ands
            assumption
          · cases b3
            all_goals
              go_wp2_with fail
              go_ret
              refine ⟨ret_bool (by rw [HR2.out]; rfl), H1.trans ?_⟩
              refine Below.mono (B := w3.heap.size) ?_ H1.size
              go_split_ands
              assumption
      · go_wp2_with fail
        go_ret
        exact ⟨ret_bool (by rw [← HR.out]; rfl), Below.trans (by repeat (first | exact Below.refl _ _ | refine Below.drew ?_ | refine Below.alloc ?_ (by simp <;> omega) _)) (hb3.mono (by simp <;> omega))⟩
    · go_wp2_with fail
      go_ret
      exact ⟨ret_bool (by rw [← HR.out]; rfl), Below.trans (by repeat (first | exact Below.refl _ _ | refine Below.drew ?_ | refine Below.alloc ?_ (by simp <;> omega) _)) (hb2.mono (by simp <;> omega))⟩
  · go_wp2_with fail
    go_ret
    exact ⟨ret_bool (by rw [← HR.out]; rfl), Below.trans (by repeat (first | exact Below.refl _ _ | refine Below.drew ?_ | refine Below.alloc ?_ (by simp <;> omega) _)) (hb1.mono (by simp <;> omega))⟩
end Go.Proofs.Ytefhfbefgeadaaa
