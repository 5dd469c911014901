/-
  Contracts of package exact: Less, InTriangle.
-/
import Derived.Test.YtefhfbefgeadaaaExact4
import Derived.Deep.RegionHeld3
import Derived.Deep.RegionWith
namespace Go.Proofs.Ytefhfbefgeadaaa
open Go.RowKit

def lessB (a b : Pt) : Bool := decide (a.1 < b.1) || (a.1 == b.1 && decide (a.2 < b.2))

set_option maxHeartbeats 1000000 in
theorem less_any (ax ay bx bY : Int) (w : World) :
    Calls Try.prog 21 #[.agg #[.int .i64 ax, .int .i64 ay], .agg #[.int .i64 bx, .int .i64 bY]] w
      fun e w' => e = .returned (.bool (lessB (ax, ay) (bx, bY))) ∧ Below w.heap.size w w' := by
  rcases Int.lt_trichotomy ax bx with h1 | h1 | h1
  · have HF := Lib.hid (show lessB (ax, ay) (bx, bY) = true by simp [lessB, h1])
    go_enter Try.func21, Try.ntmps21
    go_wp2
    go_ret
    exact ⟨ret_bool HF.out.symm, ((Below.refl _ _).alloc (by simp) _).alloc (by simp) _⟩
  · subst h1
    have HF := Lib.hid (show lessB (ax, ay) (ax, bY) = decide (ay < bY) by simp [lessB])
    go_enter Try.func21, Try.ntmps21
    go_wp2
    go_ret
    exact ⟨ret_bool HF.out.symm, ((Below.refl _ _).alloc (by simp) _).alloc (by simp) _⟩
  · have HF := Lib.hid (show lessB (ax, ay) (bx, bY) = decide (ax < bx) by simp [lessB]; omega)
    go_enter Try.func21, Try.ntmps21
    go_wp2
    go_ret
    exact ⟨ret_bool HF.out.symm, ((Below.refl _ _).alloc (by simp) _).alloc (by simp) _⟩

/-- The closure 'side' of InTriangle: is the turn other than the negative of the triangle's? -/
theorem side_any (xx xy yx yy px py T : Int) (Bp Bt : Nat) (w : World) (hT : -1 ≤ T) (hT' : T ≤ 1) (hp : Bp < w.heap.size) (ht : Bt < w.heap.size)
    (c0 : w.cell? ⟨Bp, 0, none⟩ = some (.int .i64 px)) (c1 : w.cell? ⟨Bp, 1, none⟩ = some (.int .i64 py)) (c2 : w.cell? ⟨Bt, 0, none⟩ = some (.int .i64 T)) :
    Calls Try.prog 34 #[.agg #[.int .i64 xx, .int .i64 xy], .agg #[.int .i64 yx, .int .i64 yy], .pointer (some ⟨Bp, 0, none⟩), .pointer (some ⟨Bt, 0, none⟩)] w
      fun e w' => e = .returned (.bool (turn (xx, xy) (yx, yy) (px, py) != -T)) ∧ Below w.heap.size w w' := by
  go_enter Try.func34, Try.ntmps34
  go_wp2_with fail
  go_region_held3 (fun w' => w'.cell? ⟨w.heap.size, 0, none⟩ = some (.int .i64 xx) ∧ w'.cell? ⟨w.heap.size, 1, none⟩ = some (.int .i64 xy) ∧ w'.cell? ⟨w.heap.size + 1, 0, none⟩ = some (.int .i64 yx) ∧ w'.cell? ⟨w.heap.size + 1, 1, none⟩ = some (.int .i64 yy) ∧
      w'.cell? ⟨Bp, 0, none⟩ = some (.int .i64 px) ∧ w'.cell? ⟨Bp, 1, none⟩ = some (.int .i64 py) ∧ w'.cell? ⟨Bt, 0, none⟩ = some (.int .i64 T))
    (first | go_keep | (go_split_ands; refine ⟨?_, ?_, ?_, ?_, ?_, ?_, ?_⟩ <;> (first | (rw [hb1.cell (by simp <;> omega)]; assumption) | (rw [hb1.cell (by simp <;> omega)]; go_keep))))
    ((go_at_call 24; refine (turn_any _ _ _ _ _ _ _).mono ?_; rintro e w1 ⟨rfl, hb1⟩))
  go_wp2
  go_ret
  refine ⟨ret_bool (by rw [IntWalk.i64_in (-T) (by omega)]), Below.trans ?_ (hb1.mono (by simp <;> omega))⟩
  exact by repeat (first | exact Below.refl _ _ | refine Below.drew ?_ | refine Below.alloc ?_ (by simp <;> omega) _)

/-- What InTriangle answers of points that may be. -/
def intriB (a b c p : Pt) : Bool :=
  rightAll [a, b, c, p] && if turn a b c = 0 then onB a b p || (onB b c p || onB c a p)
    else (p == a || (turn a b p != -turn a b c && (turn b c p != -turn a b c && turn c a p != -turn a b c)))

theorem turn_bd (a b c : Pt) : -1 ≤ turn a b c ∧ turn a b c ≤ 1 := by unfold turn; split <;> (try split) <;> omega

set_option maxHeartbeats 2000000 in
theorem intri_turned (ax ay bx bY cx cy px py T : Int) (w : World) (h1 : rightAll [(ax, ay), (bx, bY), (cx, cy), (px, py)] = true) (hTT : turn (ax, ay) (bx, bY) (cx, cy) = T) (h2 : (T == 0) = false) (hT : -1 ≤ T) (hT' : T ≤ 1)
    (hf : intriB (ax, ay) (bx, bY) (cx, cy) (px, py) = (decide (px = ax ∧ py = ay) || (turn (ax, ay) (bx, bY) (px, py) != -T && (turn (bx, bY) (cx, cy) (px, py) != -T && turn (cx, cy) (ax, ay) (px, py) != -T)))) :
    Calls Try.prog 31 #[.agg #[.int .i64 ax, .int .i64 ay], .agg #[.int .i64 bx, .int .i64 bY], .agg #[.int .i64 cx, .int .i64 cy], .agg #[.int .i64 px, .int .i64 py]] w
      fun e w' => e = .returned (.bool (intriB (ax, ay) (bx, bY) (cx, cy) (px, py))) ∧ Below w.heap.size w w' := by
  have H1 := Lib.hid h1
  have HT := Lib.hid hTT
  clear h1 hTT
  rcases (show (px = ax ∧ py = ay) ∨ (px = ax ∧ py ≠ ay) ∨ px ≠ ax by omega) with ⟨rfl, rfl⟩ | ⟨rfl, hne⟩ | hne
  · have HF := Lib.hid (hf.trans (show _ = true by simp))
    clear hf
    go_enter Try.func31, Try.ntmps31
    go_wp2_with fail
    refine (right_any _ _ _ [(px, py), (bx, bY), (cx, cy), (px, py)] _ ?_ rfl (by simp)).mono ?_
    · exact Reads.new (by simp) (by simp) rfl rfl
    rintro e w1 ⟨rfl, hb1⟩
    rw [H1.out]
    obtain ⟨kc, kf⟩ := bcell hb1
    go_wp2_with fail
    refine (turn_any _ _ _ _ _ _ _).mono ?_
    rintro e w2 ⟨rfl, hb2⟩
    rw [HT.out]
    replace hb2 := hb1.trans (hb2.mono hb1.size)
    obtain ⟨kc2, kf2⟩ := bcell hb2
    go_wp2_with fail
    refine (turn_any _ _ _ _ _ _ _).mono ?_
    rintro e w3 ⟨rfl, hb3⟩
    rw [HT.out]
    replace hb3 := hb2.trans (hb3.mono hb2.size)
    obtain ⟨kc3, kf3⟩ := bcell hb3
    have hz3 := hb3.size
    simp at hz3
    have z0 : w.heap.size < w3.heap.size := by omega
    have z1 : w.heap.size + 1 < w3.heap.size := by omega
    have z2 : w.heap.size + 1 + 1 < w3.heap.size := by omega
    have z3 : w.heap.size + 1 + 1 + 1 < w3.heap.size := by omega
    have y0 : w.heap.size < w3.heap.size + 1 := by omega
    have y1 : w.heap.size + 1 < w3.heap.size + 1 := by omega
    have y2 : w.heap.size + 1 + 1 < w3.heap.size + 1 := by omega
    have y3 : w.heap.size + 1 + 1 + 1 < w3.heap.size + 1 := by omega
    go_wp2_with fail
    go_ret
    exact ⟨ret_bool HF.out.symm, ((Below.trans (by repeat (first | exact Below.refl _ _ | refine Below.drew ?_ | refine Below.alloc ?_ (by simp <;> omega) _)) (hb3.mono (by simp <;> omega)))).alloc (by omega) _⟩
  · generalize ho1 : (turn (px, ay) (bx, bY) (px, py) != -T) = o1 at *
    generalize ho2 : (turn (bx, bY) (cx, cy) (px, py) != -T) = o2 at *
    generalize ho3 : (turn (cx, cy) (px, ay) (px, py) != -T) = o3 at *
    have HO1 := Lib.hid ho1
    have HO2 := Lib.hid ho2
    have HO3 := Lib.hid ho3
    have HF := Lib.hid (hf.trans (show _ = (o1 && (o2 && o3)) by simp [hne]))
    clear ho1 ho2 ho3 hf
    go_enter Try.func31, Try.ntmps31
    go_wp2_with fail
    refine (right_any _ _ _ [(px, ay), (bx, bY), (cx, cy), (px, py)] _ ?_ rfl (by simp)).mono ?_
    · exact Reads.new (by simp) (by simp) rfl rfl
    rintro e w1 ⟨rfl, hb1⟩
    rw [H1.out]
    obtain ⟨kc, kf⟩ := bcell hb1
    go_wp2_with fail
    refine (turn_any _ _ _ _ _ _ _).mono ?_
    rintro e w2 ⟨rfl, hb2⟩
    rw [HT.out]
    replace hb2 := hb1.trans (hb2.mono hb1.size)
    obtain ⟨kc2, kf2⟩ := bcell hb2
    go_wp2_with fail
    refine (turn_any _ _ _ _ _ _ _).mono ?_
    rintro e w3 ⟨rfl, hb3⟩
    rw [HT.out]
    replace hb3 := hb2.trans (hb3.mono hb2.size)
    obtain ⟨kc3, kf3⟩ := bcell hb3
    have hz3 := hb3.size
    simp at hz3
    have z0 : w.heap.size < w3.heap.size := by omega
    have z1 : w.heap.size + 1 < w3.heap.size := by omega
    have z2 : w.heap.size + 1 + 1 < w3.heap.size := by omega
    have z3 : w.heap.size + 1 + 1 + 1 < w3.heap.size := by omega
    have y0 : w.heap.size < w3.heap.size + 1 := by omega
    have y1 : w.heap.size + 1 < w3.heap.size + 1 := by omega
    have y2 : w.heap.size + 1 + 1 < w3.heap.size + 1 := by omega
    have y3 : w.heap.size + 1 + 1 + 1 < w3.heap.size + 1 := by omega
    go_wp2_with fail
    refine (side_any _ _ _ _ px py T _ _ _ hT hT' (by simp; omega) (by simp) (by go_simp) (by go_simp) (by go_simp)).mono ?_
    rintro e w4 ⟨rfl, hb4⟩
    rw [HO1.out]
    obtain ⟨kc4, kf4⟩ := bcell hb4
    have hz4 := hb4.size
    simp at hz4
    cases o1
    · go_wp2_with fail
      go_ret
      exact ⟨ret_bool HF.out.symm, Below.trans (((Below.trans (by repeat (first | exact Below.refl _ _ | refine Below.drew ?_ | refine Below.alloc ?_ (by simp <;> omega) _)) (hb3.mono (by simp <;> omega)))).alloc (by omega) _) (hb4.mono (by simp <;> omega))⟩
    · go_wp2_with fail
      refine (side_any _ _ _ _ px py T _ _ _ hT hT' (by omega) (by omega) (by go_simp) (by go_simp) (by go_simp)).mono ?_
      rintro e w5 ⟨rfl, hb5⟩
      rw [HO2.out]
      replace hb5 := hb4.trans (hb5.mono hb4.size)
      obtain ⟨kc5, kf5⟩ := bcell hb5
      have hz5 := hb5.size
      simp at hz5
      cases o2
      · go_wp2_with fail
        go_ret
        exact ⟨ret_bool HF.out.symm, Below.trans (((Below.trans (by repeat (first | exact Below.refl _ _ | refine Below.drew ?_ | refine Below.alloc ?_ (by simp <;> omega) _)) (hb3.mono (by simp <;> omega)))).alloc (by omega) _) (hb5.mono (by simp <;> omega))⟩
      · go_wp2_with fail
        refine (side_any _ _ _ _ px py T _ _ _ hT hT' (by omega) (by omega) (by go_simp) (by go_simp) (by go_simp)).mono ?_
        rintro e w6 ⟨rfl, hb6⟩
        rw [HO3.out]
        replace hb6 := hb5.trans (hb6.mono hb5.size)
        go_wp2_with fail
        go_ret
        exact ⟨ret_bool HF.out.symm, Below.trans (((Below.trans (by repeat (first | exact Below.refl _ _ | refine Below.drew ?_ | refine Below.alloc ?_ (by simp <;> omega) _)) (hb3.mono (by simp <;> omega)))).alloc (by omega) _) (hb6.mono (by simp <;> omega))⟩
  · generalize ho1 : (turn (ax, ay) (bx, bY) (px, py) != -T) = o1 at *
    generalize ho2 : (turn (bx, bY) (cx, cy) (px, py) != -T) = o2 at *
    generalize ho3 : (turn (cx, cy) (ax, ay) (px, py) != -T) = o3 at *
    have HO1 := Lib.hid ho1
    have HO2 := Lib.hid ho2
    have HO3 := Lib.hid ho3
    have HF := Lib.hid (hf.trans (show _ = (o1 && (o2 && o3)) by simp [hne]))
    clear ho1 ho2 ho3 hf
    go_enter Try.func31, Try.ntmps31
    go_wp2_with fail
    refine (right_any _ _ _ [(ax, ay), (bx, bY), (cx, cy), (px, py)] _ ?_ rfl (by simp)).mono ?_
    · exact Reads.new (by simp) (by simp) rfl rfl
    rintro e w1 ⟨rfl, hb1⟩
    rw [H1.out]
    obtain ⟨kc, kf⟩ := bcell hb1
    go_wp2_with fail
    refine (turn_any _ _ _ _ _ _ _).mono ?_
    rintro e w2 ⟨rfl, hb2⟩
    rw [HT.out]
    replace hb2 := hb1.trans (hb2.mono hb1.size)
    obtain ⟨kc2, kf2⟩ := bcell hb2
    go_wp2_with fail
    refine (turn_any _ _ _ _ _ _ _).mono ?_
    rintro e w3 ⟨rfl, hb3⟩
    rw [HT.out]
    replace hb3 := hb2.trans (hb3.mono hb2.size)
    obtain ⟨kc3, kf3⟩ := bcell hb3
    have hz3 := hb3.size
    simp at hz3
    have z0 : w.heap.size < w3.heap.size := by omega
    have z1 : w.heap.size + 1 < w3.heap.size := by omega
    have z2 : w.heap.size + 1 + 1 < w3.heap.size := by omega
    have z3 : w.heap.size + 1 + 1 + 1 < w3.heap.size := by omega
    have y0 : w.heap.size < w3.heap.size + 1 := by omega
    have y1 : w.heap.size + 1 < w3.heap.size + 1 := by omega
    have y2 : w.heap.size + 1 + 1 < w3.heap.size + 1 := by omega
    have y3 : w.heap.size + 1 + 1 + 1 < w3.heap.size + 1 := by omega
    go_wp2_with fail
    refine (side_any _ _ _ _ px py T _ _ _ hT hT' (by simp; omega) (by simp) (by go_simp) (by go_simp) (by go_simp)).mono ?_
    rintro e w4 ⟨rfl, hb4⟩
    rw [HO1.out]
    obtain ⟨kc4, kf4⟩ := bcell hb4
    have hz4 := hb4.size
    simp at hz4
    cases o1
    · go_wp2_with fail
      go_ret
      exact ⟨ret_bool HF.out.symm, Below.trans (((Below.trans (by repeat (first | exact Below.refl _ _ | refine Below.drew ?_ | refine Below.alloc ?_ (by simp <;> omega) _)) (hb3.mono (by simp <;> omega)))).alloc (by omega) _) (hb4.mono (by simp <;> omega))⟩
    · go_wp2_with fail
      refine (side_any _ _ _ _ px py T _ _ _ hT hT' (by omega) (by omega) (by go_simp) (by go_simp) (by go_simp)).mono ?_
      rintro e w5 ⟨rfl, hb5⟩
      rw [HO2.out]
      replace hb5 := hb4.trans (hb5.mono hb4.size)
      obtain ⟨kc5, kf5⟩ := bcell hb5
      have hz5 := hb5.size
      simp at hz5
      cases o2
      · go_wp2_with fail
        go_ret
        exact ⟨ret_bool HF.out.symm, Below.trans (((Below.trans (by repeat (first | exact Below.refl _ _ | refine Below.drew ?_ | refine Below.alloc ?_ (by simp <;> omega) _)) (hb3.mono (by simp <;> omega)))).alloc (by omega) _) (hb5.mono (by simp <;> omega))⟩
      · go_wp2_with fail
        refine (side_any _ _ _ _ px py T _ _ _ hT hT' (by omega) (by omega) (by go_simp) (by go_simp) (by go_simp)).mono ?_
        rintro e w6 ⟨rfl, hb6⟩
        rw [HO3.out]
        replace hb6 := hb5.trans (hb6.mono hb5.size)
        go_wp2_with fail
        go_ret
        exact ⟨ret_bool HF.out.symm, Below.trans (((Below.trans (by repeat (first | exact Below.refl _ _ | refine Below.drew ?_ | refine Below.alloc ?_ (by simp <;> omega) _)) (hb3.mono (by simp <;> omega)))).alloc (by omega) _) (hb6.mono (by simp <;> omega))⟩

set_option maxHeartbeats 1000000 in
theorem intri_any (ax ay bx bY cx cy px py : Int) (w : World) :
    Calls Try.prog 31 #[.agg #[.int .i64 ax, .int .i64 ay], .agg #[.int .i64 bx, .int .i64 bY], .agg #[.int .i64 cx, .int .i64 cy], .agg #[.int .i64 px, .int .i64 py]] w
      fun e w' => e = .returned (.bool (intriB (ax, ay) (bx, bY) (cx, cy) (px, py))) ∧ Below w.heap.size w w' := by
  by_cases h1 : rightAll [(ax, ay), (bx, bY), (cx, cy), (px, py)] = true
  · have H1 := Lib.hid h1
    by_cases h2 : turn (ax, ay) (bx, bY) (cx, cy) = 0
    · have H2 := Lib.hid h2
      have HF := Lib.hid (show intriB (ax, ay) (bx, bY) (cx, cy) (px, py) = (onB (ax, ay) (bx, bY) (px, py) || (onB (bx, bY) (cx, cy) (px, py) || onB (cx, cy) (ax, ay) (px, py))) by simp [intriB, h1, h2])
      clear h1 h2
      go_enter Try.func31, Try.ntmps31
      go_wp2_with fail
      refine (right_any _ _ _ [(ax, ay), (bx, bY), (cx, cy), (px, py)] _ ?_ rfl (by simp)).mono ?_
      · exact Reads.new (by simp) (by simp) rfl rfl
      rintro e w1 ⟨rfl, hb1⟩
      rw [H1.out]
      obtain ⟨kc, kf⟩ := bcell hb1
      go_wp2_with fail
      refine (turn_any _ _ _ _ _ _ _).mono ?_
      rintro e w2 ⟨rfl, hb2⟩
      rw [H2.out]
      replace hb2 := hb1.trans (hb2.mono hb1.size)
      obtain ⟨kc2, kf2⟩ := bcell hb2
      go_wp2_with fail
      refine (on_any _ _ _ _ _ _ _).mono ?_
      rintro e w3 ⟨rfl, hb3⟩
      replace hb3 := hb2.trans (hb3.mono hb2.size)
      obtain ⟨kc3, kf3⟩ := bcell hb3
      generalize ho1 : onB (ax, ay) (bx, bY) (px, py) = o1 at *
      generalize ho2 : onB (bx, bY) (cx, cy) (px, py) = o2 at *
      generalize ho3 : onB (cx, cy) (ax, ay) (px, py) = o3 at *
      have HO2 := Lib.hid ho2
      have HO3 := Lib.hid ho3
      clear ho1 ho2 ho3
      cases o1
      · go_wp2_with fail
        refine (on_any _ _ _ _ _ _ _).mono ?_
        rintro e w4 ⟨rfl, hb4⟩
        replace hb4 := hb3.trans (hb4.mono hb3.size)
        obtain ⟨kc4, kf4⟩ := bcell hb4
        rw [HO2.out]
        cases o2
        · go_wp2_with fail
          refine (on_any _ _ _ _ _ _ _).mono ?_
          rintro e w5 ⟨rfl, hb5⟩
          replace hb5 := hb4.trans (hb5.mono hb4.size)
          rw [HO3.out]
          go_wp2_with fail
          go_ret
          refine ⟨ret_bool HF.out.symm, Below.trans ?_ (hb5.mono (by simp <;> omega))⟩
          exact by repeat (first | exact Below.refl _ _ | refine Below.drew ?_ | refine Below.alloc ?_ (by simp <;> omega) _)
        · go_wp2_with fail
          go_ret
          refine ⟨ret_bool HF.out.symm, Below.trans ?_ (hb4.mono (by simp <;> omega))⟩
          exact by repeat (first | exact Below.refl _ _ | refine Below.drew ?_ | refine Below.alloc ?_ (by simp <;> omega) _)
      · go_wp2_with fail
        go_ret
        refine ⟨ret_bool HF.out.symm, Below.trans ?_ (hb3.mono (by simp <;> omega))⟩
        exact by repeat (first | exact Below.refl _ _ | refine Below.drew ?_ | refine Below.alloc ?_ (by simp <;> omega) _)
    · have hT := turn_bd (ax, ay) (bx, bY) (cx, cy)
      have HF := Lib.hid (show intriB (ax, ay) (bx, bY) (cx, cy) (px, py) = (decide (px = ax ∧ py = ay) || (turn (ax, ay) (bx, bY) (px, py) != -turn (ax, ay) (bx, bY) (cx, cy) && (turn (bx, bY) (cx, cy) (px, py) != -turn (ax, ay) (bx, bY) (cx, cy) && turn (cx, cy) (ax, ay) (px, py) != -turn (ax, ay) (bx, bY) (cx, cy)))) by
        have e : ((px, py) == (ax, ay)) = decide (px = ax ∧ py = ay) := by rw [Bool.eq_iff_iff]; simp
        simp only [intriB, h1, if_neg h2, Bool.true_and, e])
      generalize hTT : turn (ax, ay) (bx, bY) (cx, cy) = T at *
      have HT := Lib.hid hTT
      have h2' : (T == 0) = false := by simp [h2]
      clear h1 h2 hTT
      exact intri_turned ax ay bx bY cx cy px py T w H1.out HT.out h2' hT.1 hT.2 HF.out
  · have HF := Lib.hid (show intriB (ax, ay) (bx, bY) (cx, cy) (px, py) = false by simp [intriB, h1])
    have H1 := Lib.hid (Bool.eq_false_iff.2 h1)
    clear h1
    go_enter Try.func31, Try.ntmps31
    go_wp2_with fail
    refine (right_any _ _ _ [(ax, ay), (bx, bY), (cx, cy), (px, py)] _ ?_ rfl (by simp)).mono ?_
    · exact Reads.new (by simp) (by simp) rfl rfl
    rintro e w1 ⟨rfl, hb1⟩
    rw [H1.out]
    go_wp2_with fail
    go_ret
    refine ⟨ret_bool HF.out.symm, Below.trans ?_ (hb1.mono (by simp <;> omega))⟩
    exact by repeat (first | exact Below.refl _ _ | refine Below.drew ?_ | refine Below.alloc ?_ (by simp <;> omega) _)
end Go.Proofs.Ytefhfbefgeadaaa
