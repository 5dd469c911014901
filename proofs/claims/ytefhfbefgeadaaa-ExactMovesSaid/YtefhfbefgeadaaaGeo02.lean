/-
  More plain laws of layer 1: points changed for one another, and moved.
-/
import Derived.Test.YtefhfbefgeadaaaGeo01
namespace Go.Proofs.Ytefhfbefgeadaaa

theorem cross_bd (a b c : Pt) : -2251799813685248 ≤ cross a b c ∧ cross a b c ≤ 2251799813685248 := by
  unfold cross
  split
  · rename_i h
    simp only [Bool.and_eq_true] at h
    have b1 := rightB_bd h.1.1
    have b2 := rightB_bd h.1.2
    have b3 := rightB_bd h.2
    have m1 := mul_bd (b.1 - a.1) (c.2 - a.2) 33554432 (by omega) (by omega) (by omega) (by omega)
    have m2 := mul_bd (b.2 - a.2) (c.1 - a.1) 33554432 (by omega) (by omega) (by omega) (by omega)
    unfold crossZ
    omega
  · omega
theorem crossT_swap (a b c : Pt) : cross b a c = - cross a b c := by
  unfold cross
  by_cases h1 : rightB a = true <;> by_cases h2 : rightB b = true <;> by_cases h3 : rightB c = true <;> simp [h1, h2, h3, cross_swap a b c]
theorem crossT_turn (a b c : Pt) : cross b c a = cross a b c := by
  unfold cross
  by_cases h1 : rightB a = true <;> by_cases h2 : rightB b = true <;> by_cases h3 : rightB c = true <;> simp [h1, h2, h3, cross_turn a b c]
theorem crossT_turn2 (a b c : Pt) : cross c a b = cross a b c := by rw [← crossT_turn c a b]
theorem crossT_same (a b : Pt) : cross a b b = 0 := by
  unfold cross
  split
  · rw [← cross_turn a b b]; exact cross_self b a
  · rfl

theorem right_and {l : List Pt} {a : Pt} (h : rightAll l = true) (ha : a ∈ l) : rightB a = true := List.all_eq_true.1 h a ha
theorem onB_false {a b p : Pt} (h : ¬ (rightB a = true ∧ rightB b = true ∧ rightB p = true)) : onB a b p = false := by
  have : rightAll [a, b, p] = false := by
    apply Bool.eq_false_iff.2; intro hr; exact h ⟨right_and hr (by simp), right_and hr (by simp), right_and hr (by simp)⟩
  simp [onB, this]
theorem intriB_false {a b c p : Pt} (h : ¬ (rightB a = true ∧ rightB b = true ∧ rightB c = true ∧ rightB p = true)) : intriB a b c p = false := by
  have : rightAll [a, b, c, p] = false := by
    apply Bool.eq_false_iff.2; intro hr; exact h ⟨right_and hr (by simp), right_and hr (by simp), right_and hr (by simp), right_and hr (by simp)⟩
  simp [intriB, this]

theorem betweenB_swap (a b p : Pt) : betweenB b a p = betweenB a b p := by
  simp only [betweenB, Int.min_comm b.1, Int.max_comm b.1, Int.min_comm b.2, Int.max_comm b.2]
theorem onB_swap (a b p : Pt) : onB b a p = onB a b p := by
  by_cases h : rightB a = true ∧ rightB b = true ∧ rightB p = true
  · obtain ⟨h1, h2, h3⟩ := h
    have e : turn b a p = - turn a b p := by rw [turn_sign h1 h2 h3, turn_sign h2 h1 h3, cross_swap, sign_neg]
    have e2 : (turn b a p == 0) = (turn a b p == 0) := by rw [e, Bool.eq_iff_iff, beq_iff_eq, beq_iff_eq]; omega
    simp only [onB, e2, betweenB_swap a b p, rightAll, List.all_cons, List.all_nil, h1, h2, h3]
  · rw [onB_false h, onB_false (fun hh => h ⟨hh.2.1, hh.1, hh.2.2⟩)]
theorem intriB_turn (a b c p : Pt) : intriB b c a p = intriB a b c p := by
  by_cases h : rightB a = true ∧ rightB b = true ∧ rightB c = true ∧ rightB p = true
  · obtain ⟨h1, h2, h3, h4⟩ := h
    rw [in_ref h1 h2 h3 h4, in_ref h2 h3 h1 h4, Bool.eq_iff_iff]
    simp only [refIn, Bool.or_eq_true, Bool.and_eq_true, beq_iff_eq, bne_iff_ne]
    constructor
    · rintro ((h | h | h) | h)
      · exact .inl (.inr (.inl h))
      · exact .inl (.inr (.inr h))
      · exact .inl (.inl h)
      · right; omega
    · rintro ((h | h | h) | h)
      · exact .inl (.inr (.inr h))
      · exact .inl (.inl h)
      · exact .inl (.inr (.inl h))
      · right; omega
  · rw [intriB_false h, intriB_false (fun hh => h ⟨hh.2.2.1, hh.1, hh.2.1, hh.2.2.2⟩)]
theorem intriB_swap (a b c p : Pt) : intriB b a c p = intriB a b c p := by
  by_cases h : rightB a = true ∧ rightB b = true ∧ rightB c = true ∧ rightB p = true
  · obtain ⟨h1, h2, h3, h4⟩ := h
    rw [in_ref h1 h2 h3 h4, in_ref h2 h1 h3 h4]
    have e1 : refOn b a p = refOn a b p := by rw [← on_ref h2 h1 h4, ← on_ref h1 h2 h4, onB_swap]
    have e2 : refOn a c p = refOn c a p := by rw [← on_ref h1 h3 h4, ← on_ref h3 h1 h4, onB_swap]
    have e3 : refOn c b p = refOn b c p := by rw [← on_ref h3 h2 h4, ← on_ref h2 h3 h4, onB_swap]
    rw [Bool.eq_iff_iff]
    simp only [refIn, e1, e2, e3, cross_swap a b p, cross_swap c a p, cross_swap b c p, sign_neg, Bool.or_eq_true, Bool.and_eq_true, beq_iff_eq, bne_iff_ne]
    constructor
    · rintro ((h | h | h) | h)
      · exact .inl (.inl h)
      · exact .inl (.inr (.inr h))
      · exact .inl (.inr (.inl h))
      · right; omega
    · rintro ((h | h | h) | h)
      · exact .inl (.inl h)
      · exact .inl (.inr (.inr h))
      · exact .inl (.inr (.inl h))
      · right; omega
  · rw [intriB_false h, intriB_false (fun hh => h ⟨hh.2.1, hh.1, hh.2.2.1, hh.2.2.2⟩)]

theorem refOn_first (a b : Pt) : refOn a b a = true := by
  unfold refOn
  split
  · simp
  · have h0 : crossZ a b a = 0 := by simp [crossZ]
    have h1 : dotZ a b a = 0 := by simp [dotZ]
    have h2 : 0 ≤ longZ a b := by have := sq_nonneg (b.1 - a.1); have := sq_nonneg (b.2 - a.2); unfold longZ; omega
    simp [h0, h1, h2]
theorem refOn_last (a b : Pt) : refOn a b b = true := by
  unfold refOn
  split
  · rename_i h; simp [h]
  · have h0 : crossZ a b b = 0 := by simp only [crossZ]; rw [Int.mul_comm]; omega
    have h1 : dotZ a b b = longZ a b := rfl
    have h2 : 0 ≤ longZ a b := by have := sq_nonneg (b.1 - a.1); have := sq_nonneg (b.2 - a.2); unfold longZ; omega
    simp [h0, h1, h2]
theorem intriB_corners {a b c : Pt} (h1 : rightB a = true) (h2 : rightB b = true) (h3 : rightB c = true) : intriB a b c a = true ∧ intriB a b c b = true ∧ intriB a b c c = true := by
  refine ⟨?_, ?_, ?_⟩
  · rw [in_ref h1 h2 h3 h1]; simp [refIn, refOn_first]
  · rw [in_ref h1 h2 h3 h2]; simp [refIn, refOn_first]
  · rw [in_ref h1 h2 h3 h3]; simp [refIn, refOn_first]
theorem onB_last {a b : Pt} (h1 : rightB a = true) (h2 : rightB b = true) : onB a b b = true := by rw [on_ref h1 h2 h2, refOn_last]
theorem onB_point {a b p : Pt} (h1 : rightB a = true) (h2 : rightB b = true) (h : onB a a p = true) : onB a b p = true := by
  have hp : rightB p = true := by
    simp only [onB, Bool.and_eq_true] at h
    exact right_and h.1.1 (by simp)
  rw [on_ref h1 h1 hp] at h
  simp only [refOn, if_true, decide_eq_true_eq] at h
  subst h
  rw [on_ref h1 h2 h1, refOn_first]
end Go.Proofs.Ytefhfbefgeadaaa
