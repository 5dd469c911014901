/-
  Two segments: the program's class is the count of the points. No program in sight.
-/
import Derived.Test.YthkmkmkcnljmaaaP03d
namespace Go.Proofs.Ythkmkmkcnljmaaa.Pl

/-- Four turns of four points: their sum. -/
theorem four_turns (a b c d : Pt) : crossZ a b c - crossZ a b d + crossZ c d a - crossZ c d b = 0 := by unfold crossZ; grind
theorem prod_neg {u v x y : Int} (h : v * y + (u - v) * x = 0) (hb : btw u v) (hu : u ≠ 0) : ¬ 0 < x * y := by
  intro hxy
  have key : ∀ u v x y : Int, 0 ≤ v → v ≤ u → u ≠ 0 → 0 < x → 0 < y → v * y + (u - v) * x ≠ 0 := by
    intro u v x y h1 h2 h3 h4 h5
    have a1 := Int.mul_nonneg h1 (Int.le_of_lt h5)
    have a2 := Int.mul_nonneg (show 0 ≤ u - v by omega) (Int.le_of_lt h4)
    rcases Int.lt_or_eq_of_le h1 with h | h
    · have := Int.mul_pos h h5; omega
    · have := Int.mul_pos (show 0 < u - v by omega) h4; omega
  have hs : (0 < x ∧ 0 < y) ∨ (x < 0 ∧ y < 0) := by
    rcases Int.lt_trichotomy x 0 with hx | hx | hx
    · right; refine ⟨hx, ?_⟩
      have := Int.neg_mul_neg x y
      rcases Int.lt_or_le y 0 with hy | hy
      · exact hy
      · have := Int.mul_nonneg (show 0 ≤ -x by omega) hy
        rw [Int.neg_mul] at this; omega
    · rw [hx, Int.zero_mul] at hxy; omega
    · left; refine ⟨hx, ?_⟩
      rcases Int.lt_or_le 0 y with hy | hy
      · exact hy
      · have := Int.mul_nonneg (Int.le_of_lt hx) (show 0 ≤ -y by omega)
        rw [Int.mul_neg] at this; omega
  rcases hb with hb | hb <;> rcases hs with hs | hs
  · exact key u v x y hb.1 hb.2 hu hs.1 hs.2 h
  · exact key u v (-x) (-y) hb.1 hb.2 hu (by omega) (by omega) (by rw [Int.mul_neg, Int.mul_neg]; omega)
  · exact key (-u) (-v) x y (by omega) (by omega) (by omega) hs.1 hs.2 (by grind)
  · exact key (-u) (-v) (-x) (-y) (by omega) (by omega) (by omega) (by omega) (by omega) (by grind)
/-- Opposite sides: the crossing lies between. -/
theorem btw_opp {u v x y : Int} (h : v * y + (u - v) * x = 0) (hxy : (0 < x ∧ y < 0) ∨ (x < 0 ∧ 0 < y)) : btw u v := by
  have key : ∀ u v x y : Int, v * y + (u - v) * x = 0 → 0 < x → y < 0 → btw u v := by
    intro u v x y h hx hy
    have e : v * -y = (u - v) * x := by rw [Int.mul_neg]; omega
    unfold btw
    rcases Int.lt_trichotomy v 0 with hv | hv | hv
    · right
      have := Int.mul_pos (show 0 < -v by omega) (show 0 < -y by omega)
      rw [Int.neg_mul, e, ← Int.neg_mul] at this
      have := Int.pos_of_mul_pos_left this hx
      omega
    · subst hv
      rw [Int.zero_mul] at e
      have : u - 0 = 0 := by
        rcases Int.mul_eq_zero.1 e.symm with h | h <;> omega
      omega
    · left
      have := Int.mul_pos hv (show 0 < -y by omega)
      rw [e] at this
      have := Int.pos_of_mul_pos_left this hx
      omega
  rcases hxy with hxy | hxy
  · exact key u v x y h hxy.1 hxy.2
  · exact key u v (-x) (-y) (by rw [Int.mul_neg, Int.mul_neg]; omega) (by omega) (by omega)
/-- Two lines that are not one share at most one point. -/
theorem one_point {a b c d : Pt} (h1 : crossZ a b c = 0) (h3 : crossZ c d a = 0) (h2 : crossZ a b d ≠ 0) : a = c := by
  have e1 : (c.1 - a.1) * crossZ a b d = 0 := by unfold crossZ at *; grind
  have e2 : (c.2 - a.2) * crossZ a b d = 0 := by unfold crossZ at *; grind
  have f1 := (Int.mul_eq_zero.1 e1).resolve_right h2
  have f2 := (Int.mul_eq_zero.1 e2).resolve_right h2
  exact pt_ext (by omega) (by omega)
theorem ne_way {a b : Pt} (h : a ≠ b) : b.1 - a.1 ≠ 0 ∨ b.2 - a.2 ≠ 0 := by
  rcases Int.decEq (b.1 - a.1) 0 with h1 | h1
  · exact .inl h1
  · right; intro h2; exact h (pt_ext (by omega) (by omega))
section
variable {a b c d : Pt}
theorem col_sym (hcd : c ≠ d) (h3 : crossZ c d a = 0) (h4 : crossZ c d b = 0) : crossZ a b c = 0 ∧ crossZ a b d = 0 := by
  have e1 : (d.1 - c.1) * crossZ a b c = 0 := by unfold crossZ at *; grind
  have e2 : (d.2 - c.2) * crossZ a b c = 0 := by unfold crossZ at *; grind
  have e3 : (d.1 - c.1) * crossZ a b d = 0 := by unfold crossZ at *; grind
  have e4 : (d.2 - c.2) * crossZ a b d = 0 := by unfold crossZ at *; grind
  rcases ne_way hcd with h | h
  · exact ⟨(Int.mul_eq_zero.1 e1).resolve_left h, (Int.mul_eq_zero.1 e3).resolve_left h⟩
  · exact ⟨(Int.mul_eq_zero.1 e2).resolve_left h, (Int.mul_eq_zero.1 e4).resolve_left h⟩
theorem on_way (h3 : crossZ c d a = 0) : (a.1 - c.1) * crossZ a b d + ((d.1 - c.1) - (a.1 - c.1)) * crossZ a b c = 0 ∧ (a.2 - c.2) * crossZ a b d + ((d.2 - c.2) - (a.2 - c.2)) * crossZ a b c = 0 := by
  unfold crossZ at *
  constructor <;> grind
theorem on_nc (hcd : c ≠ d) (hn : ¬ (crossZ a b c = 0 ∧ crossZ a b d = 0)) : On c d a ↔ crossZ c d a = 0 ∧ ¬ 0 < crossZ a b c * crossZ a b d := by
  rw [On_btw]
  constructor
  · rintro ⟨h3, hb1, hb2⟩
    refine ⟨h3, ?_⟩
    have hw := on_way (b := b) h3
    rcases ne_way hcd with h | h
    · exact prod_neg hw.1 hb1 h
    · exact prod_neg hw.2 hb2 h
  · rintro ⟨h3, hp⟩
    have hw := on_way (b := b) h3
    rw [← On_btw]
    by_cases h1 : crossZ a b c = 0
    · rw [one_point h1 h3 (fun h => hn ⟨h1, h⟩)]; exact On_left _ _
    · by_cases h2 : crossZ a b d = 0
      · rw [one_point h2 (by rw [crossZ_swap, h3]; rfl) h1]; exact On_right _ _
      · have hs : (0 < crossZ a b c ∧ crossZ a b d < 0) ∨ (crossZ a b c < 0 ∧ 0 < crossZ a b d) := by
          rcases Int.lt_or_gt_of_ne h1 with q1 | q1 <;> rcases Int.lt_or_gt_of_ne h2 with q2 | q2
          · exact absurd (Int.mul_pos_of_neg_of_neg q1 q2) hp
          · exact .inr ⟨q1, q2⟩
          · exact .inl ⟨q1, q2⟩
          · exact absurd (Int.mul_pos q1 q2) hp
        exact (On_btw _ _ _).2 ⟨h3, btw_opp hw.1 hs, btw_opp hw.2 hs⟩
theorem eq_nc (hn : ¬ (crossZ a b c = 0 ∧ crossZ a b d = 0)) : (a = c ↔ crossZ a b c = 0 ∧ crossZ c d a = 0) := by
  constructor
  · rintro rfl; exact ⟨crossZ_left _ _, crossZ_left _ _⟩
  · rintro ⟨h1, h3⟩; exact one_point h1 h3 (fun h => hn ⟨h1, h⟩)
end
theorem sg_zero_iff (n : Int) : n = 0 ↔ sg n = 0 := by rcases sg_cases n with h | h | h <;> omega
theorem sg_mul_iff (x y : Int) : 0 < x * y ↔ 0 < sg x * sg y := by
  rcases sg_cases x with h | h | h <;> rcases sg_cases y with h' | h' | h' <;> rw [h.2, h'.2]
  · exact ⟨fun _ => by decide, fun _ => Int.mul_pos h.1 h'.1⟩
  · rw [h'.1]; simp
  · have := Int.mul_neg_of_pos_of_neg h.1 h'.1; constructor <;> intro <;> omega
  · rw [h.1]; simp
  · rw [h.1]; simp
  · rw [h.1]; simp
  · have := Int.mul_neg_of_neg_of_pos h.1 h'.1; constructor <;> intro <;> omega
  · rw [h'.1]; simp
  · exact ⟨fun _ => by decide, fun _ => Int.mul_pos_of_neg_of_neg h.1 h'.1⟩
/-- The class, out of the four turns' signs. -/
def iB (b : Bool) : Int := if b then 1 else 0
def nOnS (s1 s2 s3 s4 : Int) : Int := iB (decide (s3 = 0) && !decide (0 < s1 * s2)) + iB (decide (s4 = 0) && !decide (0 < s1 * s2)) + (iB (decide (s1 = 0) && !decide (0 < s3 * s4)) + iB (decide (s2 = 0) && !decide (0 < s3 * s4)))
def nBoS (s1 s2 s3 s4 : Int) : Int := iB ((decide (s1 = 0) && decide (s3 = 0)) || (decide (s2 = 0) && decide (s3 = 0))) + iB ((decide (s1 = 0) && decide (s4 = 0)) || (decide (s2 = 0) && decide (s4 = 0)))
def clsS (s1 s2 s3 s4 : Int) : Int :=
  if 1 < nOnS s1 s2 s3 s4 - nBoS s1 s2 s3 s4 then 4 else if nOnS s1 s2 s3 s4 - nBoS s1 s2 s3 s4 = 1 then (if nBoS s1 s2 s3 s4 = 1 then 1 else 2)
  else if ¬ s1 = s2 ∧ ¬ s3 = s4 then 3 else 0
theorem ind_iB {P : Prop} [Decidable P] {b : Bool} (h : P ↔ b = true) : ind P = iB b := by
  unfold ind iB
  by_cases hp : P
  · rw [if_pos hp, if_pos (h.1 hp)]
  · rw [if_neg hp, if_neg (fun hq => hp (h.2 hq))]
theorem cls_nc {a b c d : Pt} (hab : a ≠ b) (hcd : c ≠ d) (h5 : ¬ ((a = c ∧ b = d) ∨ (a = d ∧ b = c))) (hn : ¬ (crossZ a b c = 0 ∧ crossZ a b d = 0)) :
    cls a b c d = clsS (sg (crossZ a b c)) (sg (crossZ a b d)) (sg (crossZ c d a)) (sg (crossZ c d b)) := by
  have hn2 : ¬ (crossZ b a c = 0 ∧ crossZ b a d = 0) := by rw [crossZ_swap a b c, crossZ_swap a b d]; omega
  have hn3 : ¬ (crossZ c d a = 0 ∧ crossZ c d b = 0) := fun h => hn (col_sym hcd h.1 h.2)
  have hn4 : ¬ (crossZ d c a = 0 ∧ crossZ d c b = 0) := by rw [crossZ_swap c d a, crossZ_swap c d b]; omega
  have hn5 : ¬ (crossZ a b d = 0 ∧ crossZ a b c = 0) := fun h => hn h.symm
  have hn6 : ¬ (crossZ b a d = 0 ∧ crossZ b a c = 0) := fun h => hn2 h.symm
  have o1 := on_nc hcd hn
  have o2 := on_nc hcd hn2
  have o3 := on_nc hab hn3
  have o4 := on_nc hab hn4
  rw [crossZ_swap a b c, crossZ_swap a b d, Int.neg_mul_neg] at o2
  rw [crossZ_swap c d a, crossZ_swap c d b, Int.neg_mul_neg] at o4
  have q1 := eq_nc hn
  have q2 := eq_nc hn5
  have q3 := eq_nc hn2
  have q4 := eq_nc hn6
  rw [crossZ_swap c d a] at q2
  rw [crossZ_swap a b c] at q3
  rw [crossZ_swap a b d, crossZ_swap c d b] at q4
  have e1 : nOn a b c d = nOnS (sg (crossZ a b c)) (sg (crossZ a b d)) (sg (crossZ c d a)) (sg (crossZ c d b)) := by
    unfold nOn nOnS
    rw [ind_iB (P := On c d a) (b := decide (sg (crossZ c d a) = 0) && !decide (0 < sg (crossZ a b c) * sg (crossZ a b d))), ind_iB (P := On c d b) (b := decide (sg (crossZ c d b) = 0) && !decide (0 < sg (crossZ a b c) * sg (crossZ a b d))),
      ind_iB (P := On a b c) (b := decide (sg (crossZ a b c) = 0) && !decide (0 < sg (crossZ c d a) * sg (crossZ c d b))), ind_iB (P := On a b d) (b := decide (sg (crossZ a b d) = 0) && !decide (0 < sg (crossZ c d a) * sg (crossZ c d b)))]
    all_goals simp only [Bool.and_eq_true, Bool.not_eq_true', decide_eq_true_eq, decide_eq_false_iff_not, ← sg_zero_iff, ← sg_mul_iff]
    · rw [o4]
    · rw [o3]
    · rw [o2]
    · rw [o1]
  have e2 : nBo a b c d = nBoS (sg (crossZ a b c)) (sg (crossZ a b d)) (sg (crossZ c d a)) (sg (crossZ c d b)) := by
    unfold nBo nBoS
    rw [ind_iB (P := a = c ∨ a = d) (b := (decide (sg (crossZ a b c) = 0) && decide (sg (crossZ c d a) = 0)) || (decide (sg (crossZ a b d) = 0) && decide (sg (crossZ c d a) = 0))),
      ind_iB (P := b = c ∨ b = d) (b := (decide (sg (crossZ a b c) = 0) && decide (sg (crossZ c d b) = 0)) || (decide (sg (crossZ a b d) = 0) && decide (sg (crossZ c d b) = 0)))]
    all_goals simp only [Bool.or_eq_true, Bool.and_eq_true, decide_eq_true_eq, ← sg_zero_iff]
    · rw [q3, q4]; omega
    · rw [q1, q2]; omega
  unfold cls clsS
  rw [if_neg h5, e1, e2]
theorem seg_nc {s1 s2 s3 s4 : Int} (h1 : s1 = 1 ∨ s1 = 0 ∨ s1 = -1) (h2 : s2 = 1 ∨ s2 = 0 ∨ s2 = -1) (h3 : s3 = 1 ∨ s3 = 0 ∨ s3 = -1) (h4 : s4 = 1 ∨ s4 = 0 ∨ s4 = -1) (hn : ¬ (s1 = 0 ∧ s2 = 0)) (hn' : ¬ (s3 = 0 ∧ s4 = 0)) :
    (if (decide (0 < ml s1 s2) || decide (0 < ml s3 s4)) = true then (some ((0 : Int), (0 : Int))) else (if (decide ((ml s1 s2) = 0)) = true then (seg_Class_k1 s3 s4 1) else (seg_Class_k1 s3 s4 0))) = some (clsS s1 s2 s3 s4, 0) := by
  rcases h1 with rfl | rfl | rfl <;> rcases h2 with rfl | rfl | rfl <;> (try (exfalso; exact hn ⟨rfl, rfl⟩)) <;> rcases h3 with rfl | rfl | rfl <;> rcases h4 with rfl | rfl | rfl <;> (first | rfl | (exfalso; exact hn' ⟨rfl, rfl⟩))
end Go.Proofs.Ythkmkmkcnljmaaa.Pl
