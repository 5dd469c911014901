/-
  The plain law of layer 1: areas, segments and triangles in whole numbers. No program in sight.
-/
import Derived.Test.YtefhfbefgeadaaaExact6
import Derived.Test.YtefhfbefgeadaaaRef2
namespace Go.Proofs.Ytefhfbefgeadaaa

def dotZ (a b p : Pt) : Int := (p.1 - a.1) * (b.1 - a.1) + (p.2 - a.2) * (b.2 - a.2)
def longZ (a b : Pt) : Int := (b.1 - a.1) * (b.1 - a.1) + (b.2 - a.2) * (b.2 - a.2)
/-- The document's On, of points that may be. -/
def refOn (a b p : Pt) : Bool := if a = b then decide (p = a) else crossZ a b p == 0 && (decide (0 ≤ dotZ a b p) && decide (dotZ a b p ≤ longZ a b))
/-- The document's In, of points that may be. -/
def refIn (a b c p : Pt) : Bool := (refOn a b p || (refOn b c p || refOn c a p)) ||
  (signZ (crossZ a b p) == signZ (crossZ b c p) && (signZ (crossZ b c p) == signZ (crossZ c a p) && signZ (crossZ a b p) != 0))

theorem turn_sign {a b c : Pt} (ha : rightB a = true) (hb : rightB b = true) (hc : rightB c = true) : turn a b c = signZ (crossZ a b c) := by
  simp [turn, signZ, cross, ha, hb, hc]

theorem sign_zero {n : Int} : signZ n = 0 ↔ n = 0 := by unfold signZ; split <;> (try split) <;> omega
theorem sign_cases (n : Int) : (0 < n ∧ signZ n = 1) ∨ (n = 0 ∧ signZ n = 0) ∨ (n < 0 ∧ signZ n = -1) := by unfold signZ; split <;> (try split) <;> omega
theorem sign_neg (n : Int) : signZ (-n) = - signZ n := by rcases sign_cases n with h | h | h <;> rcases sign_cases (-n) with h' | h' | h' <;> omega

/-- d times u lies between 0 and L times u just if d lies between 0 and L. -/
theorem between_mul {d L u : Int} (h0 : 0 ≤ d) (hL : d ≤ L) : (0 ≤ u → 0 ≤ d * u ∧ d * u ≤ L * u) ∧ (u ≤ 0 → L * u ≤ d * u ∧ d * u ≤ 0) := by
  constructor
  · intro hu
    exact ⟨Int.mul_nonneg h0 hu, Int.mul_le_mul_of_nonneg_right hL hu⟩
  · intro hu
    have h1 := Int.mul_nonneg h0 (show 0 ≤ -u by omega)
    have h2 := Int.mul_le_mul_of_nonneg_right hL (show 0 ≤ -u by omega)
    rw [Int.mul_neg] at h1 h2
    rw [Int.mul_neg] at h2
    omega
theorem between_of_mul {d L u : Int} (hu : 0 < u) (h0 : 0 ≤ d * u) (h1 : d * u ≤ L * u) : 0 ≤ d ∧ d ≤ L :=
  ⟨Int.nonneg_of_mul_nonneg_left h0 hu, Int.le_of_mul_le_mul_right h1 hu⟩

/-- Collinear: 'long' times the way to p is 'dot' times the way to b. -/
theorem collinear {u1 u2 v1 v2 : Int} (h : u1 * v2 - u2 * v1 = 0) :
    (u1 * u1 + u2 * u2) * v1 = (v1 * u1 + v2 * u2) * u1 ∧ (u1 * u1 + u2 * u2) * v2 = (v1 * u1 + v2 * u2) * u2 := by
  have h' : u1 * v2 = u2 * v1 := by omega
  constructor
  · have e : u2 * u2 * v1 = v2 * u2 * u1 := by rw [Int.mul_assoc, ← h', Int.mul_comm v2 u2, Int.mul_assoc, Int.mul_comm v2 u1]
    rw [Int.add_mul, Int.add_mul, e, Int.mul_assoc u1 u1 v1, Int.mul_comm u1 v1, ← Int.mul_assoc, Int.mul_comm u1 v1]
  · have e : u1 * u1 * v2 = v1 * u1 * u2 := by rw [Int.mul_assoc, h', Int.mul_comm v1 u1, Int.mul_assoc, Int.mul_comm v1 u2]
    rw [Int.add_mul, Int.add_mul, e, Int.mul_assoc u2 u2 v2, Int.mul_comm u2 v2, ← Int.mul_assoc, Int.mul_comm u2 v2]

theorem sq_nonneg (u : Int) : 0 ≤ u * u := by
  rcases Int.le_total 0 u with h | h
  · exact Int.mul_nonneg h h
  · have := Int.mul_nonneg (show 0 ≤ -u by omega) (show 0 ≤ -u by omega)
    rwa [Int.neg_mul_neg] at this
theorem sq_pos {u : Int} (h : u ≠ 0) : 0 < u * u := by
  rcases Int.lt_or_gt_of_ne h with h | h
  · have := Int.mul_pos (show 0 < -u by omega) (show 0 < -u by omega)
    rwa [Int.neg_mul_neg] at this
  · exact Int.mul_pos h h
theorem long_pos {u1 u2 : Int} (h : u1 ≠ 0 ∨ u2 ≠ 0) : 0 < u1 * u1 + u2 * u2 := by
  have h1 := sq_nonneg u1
  have h2 := sq_nonneg u2
  rcases h with h | h
  · have := sq_pos h; omega
  · have := sq_pos h; omega

/-- Lies v between 0 and u (in whatever order)? -/
def btw (u v : Int) : Prop := (0 ≤ v ∧ v ≤ u) ∨ (u ≤ v ∧ v ≤ 0)

theorem btw_iff {u1 u2 v1 v2 : Int} (hu : u1 ≠ 0 ∨ u2 ≠ 0) (h : u1 * v2 - u2 * v1 = 0) :
    (btw u1 v1 ∧ btw u2 v2) ↔ (0 ≤ v1 * u1 + v2 * u2 ∧ v1 * u1 + v2 * u2 ≤ u1 * u1 + u2 * u2) := by
  have hc := collinear h
  have hL := long_pos hu
  generalize hd : v1 * u1 + v2 * u2 = d at *
  generalize hl : u1 * u1 + u2 * u2 = L at *
  have pos_of {x y : Int} (hx : L * x = d * y) (hb : btw y x) (hy : y ≠ 0) : 0 ≤ d ∧ d ≤ L := by
    rcases Int.lt_or_gt_of_ne hy with hn | hp
    · have hb' : y ≤ x ∧ x ≤ 0 := by unfold btw at hb; omega
      have h1 := Int.mul_nonneg (show 0 ≤ L by omega) (show 0 ≤ -x by omega)
      have h2 := Int.mul_nonneg (show 0 ≤ L by omega) (show 0 ≤ x - y by omega)
      rw [Int.mul_neg, hx] at h1
      rw [Int.mul_sub, hx] at h2
      refine between_of_mul (u := -y) (by omega) ?_ ?_
      · rw [Int.mul_neg]; exact h1
      · rw [Int.mul_neg, Int.mul_neg]; omega
    · have hb' : 0 ≤ x ∧ x ≤ y := by unfold btw at hb; omega
      have h1 := Int.mul_nonneg (show 0 ≤ L by omega) (show 0 ≤ x by omega)
      have h2 := Int.mul_nonneg (show 0 ≤ L by omega) (show 0 ≤ y - x by omega)
      rw [hx] at h1
      rw [Int.mul_sub, hx] at h2
      exact between_of_mul hp h1 (by omega)
  have back {x y : Int} (hx : L * x = d * y) (h0 : 0 ≤ d) (h1 : d ≤ L) : btw y x := by
    have hm := between_mul (u := y) h0 h1
    rw [← hx] at hm
    rcases Int.le_total 0 y with hy | hy
    · left
      obtain ⟨a, b⟩ := hm.1 hy
      exact ⟨Int.nonneg_of_mul_nonneg_right a hL, Int.le_of_mul_le_mul_left b hL⟩
    · right
      obtain ⟨a, b⟩ := hm.2 hy
      have b' : L * x ≤ L * 0 := by rw [Int.mul_zero]; exact b
      exact ⟨Int.le_of_mul_le_mul_left a hL, Int.le_of_mul_le_mul_left b' hL⟩
  constructor
  · rintro ⟨b1, b2⟩
    rcases hu with h | h
    · exact pos_of hc.1 b1 h
    · exact pos_of hc.2 b2 h
  · rintro ⟨h0, h1⟩
    exact ⟨back hc.1 h0 h1, back hc.2 h0 h1⟩

theorem betweenB_iff (a b p : Pt) : betweenB a b p = true ↔ btw (b.1 - a.1) (p.1 - a.1) ∧ btw (b.2 - a.2) (p.2 - a.2) := by
  simp only [betweenB, inB, Bool.and_eq_true, decide_eq_true_eq, btw]
  omega

theorem cross_self (a p : Pt) : crossZ a a p = 0 := by simp [crossZ]

/-- The program's On is the document's. -/
theorem on_ref {a b p : Pt} (ha : rightB a = true) (hb : rightB b = true) (hp : rightB p = true) : onB a b p = refOn a b p := by
  have hr : rightAll [a, b, p] = true := by simp [rightAll, ha, hb, hp]
  have ht := turn_sign ha hb hp
  rw [Bool.eq_iff_iff]
  simp only [onB, hr, Bool.true_and, Bool.and_eq_true, beq_iff_eq, betweenB_iff, ht, sign_zero, refOn]
  by_cases hab : a = b
  · subst hab
    rw [if_pos rfl]
    simp only [cross_self, true_and, decide_eq_true_eq, Int.sub_self]
    constructor
    · intro h
      apply Prod.ext <;> (unfold btw at h; omega)
    · intro h
      subst h
      unfold btw
      omega
  · rw [if_neg hab]
    have hne : b.1 - a.1 ≠ 0 ∨ b.2 - a.2 ≠ 0 := by
      rcases Int.decEq (b.1 - a.1) 0 with h | h
      · exact .inl h
      · right; intro h2; apply hab; apply Prod.ext <;> omega
    simp only [Bool.and_eq_true, beq_iff_eq, decide_eq_true_eq]
    constructor
    · rintro ⟨hz, hb⟩
      exact ⟨hz, (btw_iff hne hz).1 hb⟩
    · rintro ⟨hz, hb⟩
      exact ⟨hz, (btw_iff hne hz).2 hb⟩

/-! ### Triangles -/
theorem cross_sum (a b c p : Pt) : crossZ a b p + crossZ b c p + crossZ c a p = crossZ a b c := by
  have e := fun (x y z : Pt) => (cross6 x.1 x.2 y.1 y.2 z.1 z.2).symm
  have e' := fun (x y z : Pt) => (show crossZ x y z = _ from e x y z)
  rw [e' a b p, e' b c p, e' c a p, e' a b c]
  omega
theorem cross_turn (a b c : Pt) : crossZ b c a = crossZ a b c := by
  have e' := fun (x y z : Pt) => (show crossZ x y z = _ from (cross6 x.1 x.2 y.1 y.2 z.1 z.2).symm)
  rw [e' b c a, e' a b c]
  omega
theorem cross_swap (a b c : Pt) : crossZ b a c = - crossZ a b c := by
  have e' := fun (x y z : Pt) => (show crossZ x y z = _ from (cross6 x.1 x.2 y.1 y.2 z.1 z.2).symm)
  rw [e' b a c, e' a b c]
  omega

/-- Where p lies on the line of a and b: the two other areas, by 'dot' and 'long'. -/
theorem cross_along {a b c p : Pt} (h : crossZ a b p = 0) :
    longZ a b * crossZ c a p = dotZ a b p * crossZ a b c ∧ longZ a b * crossZ b c p = (longZ a b - dotZ a b p) * crossZ a b c := by
  have hc := collinear (u1 := b.1 - a.1) (u2 := b.2 - a.2) (v1 := p.1 - a.1) (v2 := p.2 - a.2) h
  have h2 : longZ a b * crossZ c a p = dotZ a b p * crossZ a b c := by
    have e1 : crossZ c a p = (p.1 - a.1) * (c.2 - a.2) - (p.2 - a.2) * (c.1 - a.1) := by
      have e' := fun (x y z : Pt) => (show crossZ x y z = _ from (cross6 x.1 x.2 y.1 y.2 z.1 z.2).symm)
      have e6 : crossZ a p c = (p.1 - a.1) * (c.2 - a.2) - (p.2 - a.2) * (c.1 - a.1) := rfl
      rw [← e6, e' c a p, e' a p c]
      omega
    rw [e1, Int.mul_sub, ← Int.mul_assoc, ← Int.mul_assoc]
    show longZ a b * (p.1 - a.1) * (c.2 - a.2) - longZ a b * (p.2 - a.2) * (c.1 - a.1) = _
    rw [show longZ a b * (p.1 - a.1) = dotZ a b p * (b.1 - a.1) from hc.1, show longZ a b * (p.2 - a.2) = dotZ a b p * (b.2 - a.2) from hc.2]
    rw [Int.mul_assoc, Int.mul_assoc, ← Int.mul_sub]
    rfl
  refine ⟨h2, ?_⟩
  have hs := cross_sum a b c p
  have e : crossZ b c p = crossZ a b c - crossZ c a p := by omega
  rw [e, Int.mul_sub, h2, Int.sub_mul]

theorem sign_of_mul {L x d T : Int} (hL : 0 < L) (h : L * x = d * T) (hT : T ≠ 0) : (signZ x ≠ - signZ T) ↔ 0 ≤ d := by
  have hx : signZ x = signZ (L * x) := by
    rcases Int.lt_trichotomy x 0 with h | h | h
    · have := Int.mul_neg_of_pos_of_neg hL h
      rcases sign_cases x with h' | h' | h' <;> rcases sign_cases (L * x) with h'' | h'' | h'' <;> omega
    · subst h; simp
    · have := Int.mul_pos hL h
      rcases sign_cases x with h' | h' | h' <;> rcases sign_cases (L * x) with h'' | h'' | h'' <;> omega
  rw [hx, h]
  rcases Int.lt_trichotomy d 0 with hd | hd | hd
  · rcases Int.lt_or_gt_of_ne hT with ht | ht
    · have := Int.mul_pos_of_neg_of_neg hd ht
      rcases sign_cases (d * T) with h | h | h <;> rcases sign_cases T with h' | h' | h' <;> omega
    · have := Int.mul_neg_of_neg_of_pos hd ht
      rcases sign_cases (d * T) with h | h | h <;> rcases sign_cases T with h' | h' | h' <;> omega
  · subst hd
    rcases sign_cases T with h' | h' | h' <;> simp [signZ] at * <;> omega
  · rcases Int.lt_or_gt_of_ne hT with ht | ht
    · have := Int.mul_neg_of_pos_of_neg hd ht
      rcases sign_cases (d * T) with h | h | h <;> rcases sign_cases T with h' | h' | h' <;> omega
    · have := Int.mul_pos hd ht
      rcases sign_cases (d * T) with h | h | h <;> rcases sign_cases T with h' | h' | h' <;> omega

/-- p on the line of an edge of a triangle with an area: it lies on the edge just if the two others don't turn against the triangle. -/
theorem on_edge {a b c p : Pt} (hT : crossZ a b c ≠ 0) (h : crossZ a b p = 0) :
    refOn a b p = true ↔ (signZ (crossZ b c p) ≠ - signZ (crossZ a b c) ∧ signZ (crossZ c a p) ≠ - signZ (crossZ a b c)) := by
  have hab : a ≠ b := by intro e; subst e; exact hT (cross_self _ _)
  have hne : b.1 - a.1 ≠ 0 ∨ b.2 - a.2 ≠ 0 := by
    rcases Int.decEq (b.1 - a.1) 0 with h | h
    · exact .inl h
    · right; intro h2; apply hab; apply Prod.ext <;> omega
  have hL : 0 < longZ a b := long_pos hne
  have hal := cross_along (c := c) h
  rw [sign_of_mul hL hal.2 hT, sign_of_mul hL hal.1 hT]
  simp only [refOn, if_neg hab, h, beq_self_eq_true, Bool.true_and, Bool.and_eq_true, decide_eq_true_eq]
  omega

theorem on_zero {a b p : Pt} (h : refOn a b p = true) : crossZ a b p = 0 := by
  by_cases hab : a = b
  · subst hab; exact cross_self _ _
  · simp only [refOn, if_neg hab, Bool.and_eq_true, beq_iff_eq] at h
    exact h.1

/-- The program's InTriangle is the document's. -/
theorem in_ref {a b c p : Pt} (ha : rightB a = true) (hb : rightB b = true) (hc : rightB c = true) (hp : rightB p = true) : intriB a b c p = refIn a b c p := by
  have hr : rightAll [a, b, c, p] = true := by simp [rightAll, ha, hb, hc, hp]
  have hsum := cross_sum a b c p
  have c1 := cross_turn a b c
  have c2 : crossZ c a b = crossZ a b c := by rw [← cross_turn c a b]
  rw [intriB, hr, Bool.true_and, turn_sign ha hb hc, turn_sign ha hb hp, turn_sign hb hc hp, turn_sign hc ha hp, on_ref ha hb hp, on_ref hb hc hp, on_ref hc ha hp]
  by_cases hT : crossZ a b c = 0
  · rw [if_pos (sign_zero.2 hT), refIn]
    have : (signZ (crossZ a b p) == signZ (crossZ b c p) && (signZ (crossZ b c p) == signZ (crossZ c a p) && signZ (crossZ a b p) != 0)) = false := by
      apply Bool.eq_false_iff.2
      intro h
      simp only [Bool.and_eq_true, beq_iff_eq, bne_iff_ne] at h
      obtain ⟨h1, h2, h3⟩ := h
      rcases sign_cases (crossZ a b p) with h4 | h4 | h4 <;> rcases sign_cases (crossZ b c p) with h5 | h5 | h5 <;> rcases sign_cases (crossZ c a p) with h6 | h6 | h6 <;> omega
    rw [this, Bool.or_false]
  · rw [if_neg (fun h => hT (sign_zero.1 h))]
    have hpa : p = a → signZ (crossZ a b p) ≠ -signZ (crossZ a b c) ∧ signZ (crossZ b c p) ≠ -signZ (crossZ a b c) ∧ signZ (crossZ c a p) ≠ -signZ (crossZ a b c) := by
      rintro rfl
      have z1 : crossZ p b p = 0 := by rw [cross_turn p p b]; exact cross_self p b
      have z2 : crossZ c p p = 0 := by rw [cross_turn p c p, cross_turn p p c]; exact cross_self p c
      rw [z1, z2, c1]
      rcases sign_cases (crossZ p b c) with h | h | h <;> simp [signZ] at * <;> omega
    have e1 := fun h => on_edge (p := p) hT h
    have e2 := fun h => on_edge (a := b) (b := c) (c := a) (p := p) (by rw [c1]; exact hT) h
    have e3 := fun h => on_edge (a := c) (b := a) (c := b) (p := p) (by rw [c2]; exact hT) h
    rw [c1] at e2
    rw [c2] at e3
    rw [Bool.eq_iff_iff]
    simp only [refIn, Bool.or_eq_true, Bool.and_eq_true, beq_iff_eq, bne_iff_ne]
    have o1 := fun h => on_zero (a := a) (b := b) (p := p) h
    have o2 := fun h => on_zero (a := b) (b := c) (p := p) h
    have o3 := fun h => on_zero (a := c) (b := a) (p := p) h
    have hiff : (p = a ∨ signZ (crossZ a b p) ≠ -signZ (crossZ a b c) ∧ signZ (crossZ b c p) ≠ -signZ (crossZ a b c) ∧ signZ (crossZ c a p) ≠ -signZ (crossZ a b c)) ↔ (signZ (crossZ a b p) ≠ -signZ (crossZ a b c) ∧ signZ (crossZ b c p) ≠ -signZ (crossZ a b c) ∧ signZ (crossZ c a p) ≠ -signZ (crossZ a b c)) :=
      ⟨fun h => h.elim hpa id, Or.inr⟩
    rw [hiff]
    generalize refOn a b p = r1 at *
    generalize refOn b c p = r2 at *
    generalize refOn c a p = r3 at *
    generalize crossZ a b p = x at *
    generalize crossZ b c p = y at *
    generalize crossZ c a p = z at *
    generalize crossZ a b c = T at *
    clear hiff hpa
    have hsx := sign_cases x
    have hsy := sign_cases y
    have hsz := sign_cases z
    have hsT := sign_cases T
    constructor
    · rintro ⟨h1, h2, h3⟩
      by_cases hx : x = 0
      · exact .inl (.inl ((e1 hx).2 ⟨h2, h3⟩))
      · by_cases hy : y = 0
        · exact .inl (.inr (.inl ((e2 hy).2 ⟨h3, h1⟩)))
        · by_cases hz : z = 0
          · exact .inl (.inr (.inr ((e3 hz).2 ⟨h1, h2⟩)))
          · right; omega
    · rintro ((h | h | h) | h)
      · have hx := o1 h
        have := (e1 hx).1 h
        refine ⟨?_, this⟩
        omega
      · have hy := o2 h
        have := (e2 hy).1 h
        refine ⟨this.2, ?_, this.1⟩
        omega
      · have hz := o3 h
        have := (e3 hz).1 h
        refine ⟨this.1, this.2, ?_⟩
        omega
      · omega
end Go.Proofs.Ytefhfbefgeadaaa
