import Derived.Test.YthkmkmkcnljmaaaP03m
namespace Go.Proofs.Ythkmkmkcnljmaaa.Pl
theorem prod_neg {u v x y : Int} (h : v * y + (u - v) * x = 0) (hb : btw u v) (hu : u ≠ 0) : ¬ 0 < x * y := by
  intro hxy
  have key : ∀ u v x y : Int, 0 ≤ v → v ≤ u → u ≠ 0 → 0 < x → 0 < y → v * y + (u - v) * x ≠ 0 := by
    intro u v x y h1 h2 h3 h4 h5
    have a1 := Int.mul_nonneg h1 (Int.le_of_lt h5)
    have a2 := Int.mul_nonneg (show 0 ≤ u - v by omega) (Int.le_of_lt h4)
    rcases Int.lt_or_eq_of_le h1 with h | h
    · have := Int.mul_pos h h5; omega
    · have := Int.mul_pos (show 0 < u - v by omega) h4; omega
  have hs : (0 < x ∧ 0 < y) ∨ (x < 0 ∧ y < 0) := by
    rcases Int.lt_trichotomy x 0 with hx | hx | hx
    · right; refine ⟨hx, ?_⟩
      have := Int.neg_mul_neg x y
      rcases Int.lt_or_le y 0 with hy | hy
      · exact hy
      · have := Int.mul_nonneg (show 0 ≤ -x by omega) hy
        rw [Int.neg_mul] at this; omega
    · rw [hx, Int.zero_mul] at hxy; omega
    · left; refine ⟨hx, ?_⟩
      rcases Int.lt_or_le 0 y with hy | hy
      · exact hy
      · have := Int.mul_nonneg (Int.le_of_lt hx) (show 0 ≤ -y by omega)
        rw [Int.mul_neg] at this; omega
  rcases hb with hb | hb <;> rcases hs with hs | hs
  · exact key u v x y hb.1 hb.2 hu hs.1 hs.2 h
  · exact key u v (-x) (-y) hb.1 hb.2 hu (by omega) (by omega) (by rw [Int.mul_neg, Int.mul_neg]; omega)
  · exact key (-u) (-v) x y (by omega) (by omega) (by omega) hs.1 hs.2 (by grind)
  · exact key (-u) (-v) (-x) (-y) (by omega) (by omega) (by omega) (by omega) (by omega) (by grind)
theorem btw_opp {u v x y : Int} (h : v * y + (u - v) * x = 0) (hxy : (0 < x ∧ y < 0) ∨ (x < 0 ∧ 0 < y)) : btw u v := by
  have key : ∀ u v x y : Int, v * y + (u - v) * x = 0 → 0 < x → y < 0 → btw u v := by
    intro u v x y h hx hy
    have e : v * -y = (u - v) * x := by rw [Int.mul_neg]; omega
    unfold btw
    rcases Int.lt_trichotomy v 0 with hv | hv | hv
    · right
      have := Int.mul_pos (show 0 < -v by omega) (show 0 < -y by omega)
      rw [Int.neg_mul, e, ← Int.neg_mul] at this
      have := Int.pos_of_mul_pos_left this hx
      omega
    · subst hv
      rw [Int.zero_mul] at e
      have : u - 0 = 0 := by
        rcases Int.mul_eq_zero.1 e.symm with h | h <;> omega
      omega
    · left
      have := Int.mul_pos hv (show 0 < -y by omega)
      rw [e] at this
      have := Int.pos_of_mul_pos_left this hx
      omega
  rcases hxy with hxy | hxy
  · exact key u v x y h hxy.1 hxy.2
  · exact key u v (-x) (-y) (by rw [Int.mul_neg, Int.mul_neg]; omega) (by omega) (by omega)
theorem one_point {a b c d : Pt} (h1 : crossZ a b c = 0) (h3 : crossZ c d a = 0) (h2 : crossZ a b d ≠ 0) : a = c := by
  have e1 : (c.1 - a.1) * crossZ a b d = 0 := by unfold crossZ at *; grind
  have e2 : (c.2 - a.2) * crossZ a b d = 0 := by unfold crossZ at *; grind
  have f1 := (Int.mul_eq_zero.1 e1).resolve_right h2
  have f2 := (Int.mul_eq_zero.1 e2).resolve_right h2
  exact pt_ext (by omega) (by omega)
theorem ne_way {a b : Pt} (h : a ≠ b) : b.1 - a.1 ≠ 0 ∨ b.2 - a.2 ≠ 0 := by
  rcases Int.decEq (b.1 - a.1) 0 with h1 | h1
  · exact .inl h1
  · right; intro h2; exact h (pt_ext (by omega) (by omega))
section
variable {a b c d : Pt}
theorem col_sym (hcd : c ≠ d) (h3 : crossZ c d a = 0) (h4 : crossZ c d b = 0) : crossZ a b c = 0 ∧ crossZ a b d = 0 := by
  have e1 : (d.1 - c.1) * crossZ a b c = 0 := by unfold crossZ at *; grind
  have e2 : (d.2 - c.2) * crossZ a b c = 0 := by unfold crossZ at *; grind
  have e3 : (d.1 - c.1) * crossZ a b d = 0 := by unfold crossZ at *; grind
  have e4 : (d.2 - c.2) * crossZ a b d = 0 := by unfold crossZ at *; grind
  rcases ne_way hcd with h | h
  · exact ⟨(Int.mul_eq_zero.1 e1).resolve_left h, (Int.mul_eq_zero.1 e3).resolve_left h⟩
  · exact ⟨(Int.mul_eq_zero.1 e2).resolve_left h, (Int.mul_eq_zero.1 e4).resolve_left h⟩
theorem on_way (h3 : crossZ c d a = 0) : (a.1 - c.1) * crossZ a b d + ((d.1 - c.1) - (a.1 - c.1)) * crossZ a b c = 0 ∧ (a.2 - c.2) * crossZ a b d + ((d.2 - c.2) - (a.2 - c.2)) * crossZ a b c = 0 := by
  unfold crossZ at *
  constructor <;> grind
theorem on_nc (hcd : c ≠ d) (hn : ¬ (crossZ a b c = 0 ∧ crossZ a b d = 0)) : On c d a ↔ crossZ c d a = 0 ∧ ¬ 0 < crossZ a b c * crossZ a b d := by
  rw [On_btw]
  constructor
  · rintro ⟨h3, hb1, hb2⟩
    refine ⟨h3, ?_⟩
    have hw := on_way (b := b) h3
    rcases ne_way hcd with h | h
    · exact prod_neg hw.1 hb1 h
    · exact prod_neg hw.2 hb2 h
  · rintro ⟨h3, hp⟩
    have hw := on_way (b := b) h3
    rw [← On_btw]
    by_cases h1 : crossZ a b c = 0
    · rw [one_point h1 h3 (fun h => hn ⟨h1, h⟩)]; exact On_left _ _
    · by_cases h2 : crossZ a b d = 0
      · rw [one_point h2 (by rw [crossZ_swap, h3]; rfl) h1]; exact On_right _ _
      · have hs : (0 < crossZ a b c ∧ crossZ a b d < 0) ∨ (crossZ a b c < 0 ∧ 0 < crossZ a b d) := by
          rcases Int.lt_or_gt_of_ne h1 with q1 | q1 <;> rcases Int.lt_or_gt_of_ne h2 with q2 | q2
          · exact absurd (Int.mul_pos_of_neg_of_neg q1 q2) hp
          · exact .inr ⟨q1, q2⟩
          · exact .inl ⟨q1, q2⟩
          · exact absurd (Int.mul_pos q1 q2) hp
        exact (On_btw _ _ _).2 ⟨h3, btw_opp hw.1 hs, btw_opp hw.2 hs⟩
theorem eq_nc (hn : ¬ (crossZ a b c = 0 ∧ crossZ a b d = 0)) : (a = c ↔ crossZ a b c = 0 ∧ crossZ c d a = 0) := by
  constructor
  · rintro rfl; exact ⟨crossZ_left _ _, crossZ_left _ _⟩
  · rintro ⟨h1, h3⟩; exact one_point h1 h3 (fun h => hn ⟨h1, h⟩)
end
theorem sg_zero_iff (n : Int) : n = 0 ↔ sg n = 0 := by rcases sg_cases n with h | h | h <;> omega
theorem sg_mul_iff (x y : Int) : 0 < x * y ↔ 0 < sg x * sg y := by
  rcases sg_cases x with h | h | h <;> rcases sg_cases y with h' | h' | h' <;> rw [h.2, h'.2]
  · exact ⟨fun _ => by decide, fun _ => Int.mul_pos h.1 h'.1⟩
  · rw [h'.1]; simp
  · have := Int.mul_neg_of_pos_of_neg h.1 h'.1; constructor <;> intro <;> omega
  · rw [h.1]; simp
  · rw [h.1]; simp
  · rw [h.1]; simp
  · have := Int.mul_neg_of_neg_of_pos h.1 h'.1; constructor <;> intro <;> omega
  · rw [h'.1]; simp
  · exact ⟨fun _ => by decide, fun _ => Int.mul_pos_of_neg_of_neg h.1 h'.1⟩
def iB (b : Bool) : Int := if b then 1 else 0
def nOnS (s1 s2 s3 s4 : Int) : Int := iB (decide (s3 = 0) && !decide (0 < s1 * s2)) + iB (decide (s4 = 0) && !decide (0 < s1 * s2)) + (iB (decide (s1 = 0) && !decide (0 < s3 * s4)) + iB (decide (s2 = 0) && !decide (0 < s3 * s4)))
def nBoS (s1 s2 s3 s4 : Int) : Int := iB ((decide (s1 = 0) && decide (s3 = 0)) || (decide (s2 = 0) && decide (s3 = 0))) + iB ((decide (s1 = 0) && decide (s4 = 0)) || (decide (s2 = 0) && decide (s4 = 0)))
def clsS (s1 s2 s3 s4 : Int) : Int :=
  if 1 < nOnS s1 s2 s3 s4 - nBoS s1 s2 s3 s4 then 4 else if nOnS s1 s2 s3 s4 - nBoS s1 s2 s3 s4 = 1 then (if nBoS s1 s2 s3 s4 = 1 then 1 else 2)
  else if ¬ s1 = s2 ∧ ¬ s3 = s4 then 3 else 0
theorem ind_iB {P : Prop} [Decidable P] {b : Bool} (h : P ↔ b = true) : ind P = iB b := by
  unfold ind iB
  by_cases hp : P
  · rw [if_pos hp, if_pos (h.1 hp)]
  · rw [if_neg hp, if_neg (fun hq => hp (h.2 hq))]
theorem cls_nc {a b c d : Pt} (hab : a ≠ b) (hcd : c ≠ d) (h5 : ¬ ((a = c ∧ b = d) ∨ (a = d ∧ b = c))) (hn : ¬ (crossZ a b c = 0 ∧ crossZ a b d = 0)) :
    cls a b c d = clsS (sg (crossZ a b c)) (sg (crossZ a b d)) (sg (crossZ c d a)) (sg (crossZ c d b)) := by
  have hn2 : ¬ (crossZ b a c = 0 ∧ crossZ b a d = 0) := by rw [crossZ_swap a b c, crossZ_swap a b d]; omega
  have hn3 : ¬ (crossZ c d a = 0 ∧ crossZ c d b = 0) := fun h => hn (col_sym hcd h.1 h.2)
  have hn4 : ¬ (crossZ d c a = 0 ∧ crossZ d c b = 0) := by rw [crossZ_swap c d a, crossZ_swap c d b]; omega
  have hn5 : ¬ (crossZ a b d = 0 ∧ crossZ a b c = 0) := fun h => hn h.symm
  have hn6 : ¬ (crossZ b a d = 0 ∧ crossZ b a c = 0) := fun h => hn2 h.symm
  have o1 := on_nc hcd hn
  have o2 := on_nc hcd hn2
  have o3 := on_nc hab hn3
  have o4 := on_nc hab hn4
  rw [crossZ_swap a b c, crossZ_swap a b d, Int.neg_mul_neg] at o2
  rw [crossZ_swap c d a, crossZ_swap c d b, Int.neg_mul_neg] at o4
  have q1 := eq_nc hn
  have q2 := eq_nc hn5
  have q3 := eq_nc hn2
  have q4 := eq_nc hn6
  rw [crossZ_swap c d a] at q2
  rw [crossZ_swap a b c] at q3
  rw [crossZ_swap a b d, crossZ_swap c d b] at q4
  have e1 : nOn a b c d = nOnS (sg (crossZ a b c)) (sg (crossZ a b d)) (sg (crossZ c d a)) (sg (crossZ c d b)) := by
    unfold nOn nOnS
    rw [ind_iB (P := On c d a) (b := decide (sg (crossZ c d a) = 0) && !decide (0 < sg (crossZ a b c) * sg (crossZ a b d))), ind_iB (P := On c d b) (b := decide (sg (crossZ c d b) = 0) && !decide (0 < sg (crossZ a b c) * sg (crossZ a b d))),
      ind_iB (P := On a b c) (b := decide (sg (crossZ a b c) = 0) && !decide (0 < sg (crossZ c d a) * sg (crossZ c d b))), ind_iB (P := On a b d) (b := decide (sg (crossZ a b d) = 0) && !decide (0 < sg (crossZ c d a) * sg (crossZ c d b)))]
    all_goals simp only [Bool.and_eq_true, Bool.not_eq_true', decide_eq_true_eq, decide_eq_false_iff_not, ← sg_zero_iff, ← sg_mul_iff]
    · rw [o4]
    · rw [o3]
    · rw [o2]
    · rw [o1]
  have e2 : nBo a b c d = nBoS (sg (crossZ a b c)) (sg (crossZ a b d)) (sg (crossZ c d a)) (sg (crossZ c d b)) := by
    unfold nBo nBoS
    rw [ind_iB (P := a = c ∨ a = d) (b := (decide (sg (crossZ a b c) = 0) && decide (sg (crossZ c d a) = 0)) || (decide (sg (crossZ a b d) = 0) && decide (sg (crossZ c d a) = 0))),
      ind_iB (P := b = c ∨ b = d) (b := (decide (sg (crossZ a b c) = 0) && decide (sg (crossZ c d b) = 0)) || (decide (sg (crossZ a b d) = 0) && decide (sg (crossZ c d b) = 0)))]
    all_goals simp only [Bool.or_eq_true, Bool.and_eq_true, decide_eq_true_eq, ← sg_zero_iff]
    · rw [q3, q4]; omega
    · rw [q1, q2]; omega
  unfold cls clsS
  rw [if_neg h5, e1, e2]
theorem seg_nc {s1 s2 s3 s4 : Int} (h1 : s1 = 1 ∨ s1 = 0 ∨ s1 = -1) (h2 : s2 = 1 ∨ s2 = 0 ∨ s2 = -1) (h3 : s3 = 1 ∨ s3 = 0 ∨ s3 = -1) (h4 : s4 = 1 ∨ s4 = 0 ∨ s4 = -1) (hn : ¬ (s1 = 0 ∧ s2 = 0)) (hn' : ¬ (s3 = 0 ∧ s4 = 0)) :
    (if (decide (0 < ml s1 s2) || decide (0 < ml s3 s4)) = true then (some ((0 : Int), (0 : Int))) else (if (decide ((ml s1 s2) = 0)) = true then (seg_Class_k1 s3 s4 1) else (seg_Class_k1 s3 s4 0))) = some (clsS s1 s2 s3 s4, 0) := by
  rcases h1 with rfl | rfl | rfl <;> rcases h2 with rfl | rfl | rfl <;> (try (exfalso; exact hn ⟨rfl, rfl⟩)) <;> rcases h3 with rfl | rfl | rfl <;> rcases h4 with rfl | rfl | rfl <;> (first | rfl | (exfalso; exact hn' ⟨rfl, rfl⟩))
theorem btw_back {L d x y : Int} (hL : 0 < L) (hx : L * x = d * y) (h0 : 0 ≤ d) (h1 : d ≤ L) : btw y x := by
  have hm := between_mul (u := y) h0 h1
  rw [← hx] at hm
  rcases Int.le_total 0 y with hy | hy
  · left
    obtain ⟨a, b⟩ := hm.1 hy
    exact ⟨Int.nonneg_of_mul_nonneg_right a hL, Int.le_of_mul_le_mul_left b hL⟩
  · right
    obtain ⟨a, b⟩ := hm.2 hy
    have b' : L * x ≤ L * 0 := by rw [Int.mul_zero]; exact b
    exact ⟨Int.le_of_mul_le_mul_left a hL, Int.le_of_mul_le_mul_left b' hL⟩
theorem lex_btw {u1 u2 v1 v2 : Int} (h : u1 * v2 - u2 * v1 = 0) (hu : u1 ≠ 0 ∨ u2 ≠ 0) (b1 : -33554432 ≤ u2 ∧ u2 ≤ 33554432) (b2 : -33554432 ≤ v2 ∧ v2 ≤ 33554432) (b3 : -33554432 ≤ u2 - v2 ∧ u2 - v2 ≤ 33554432) :
    (btw u1 v1 ∧ btw u2 v2) ↔ btw (u1 * 67108864 + u2) (v1 * 67108864 + v2) := by
  have key : ∀ u1 u2 v1 v2 : Int, u1 * v2 - u2 * v1 = 0 → (0 < u1 ∨ (u1 = 0 ∧ 0 < u2)) → (-33554432 ≤ u2 ∧ u2 ≤ 33554432) → (-33554432 ≤ v2 ∧ v2 ≤ 33554432) → (-33554432 ≤ u2 - v2 ∧ u2 - v2 ≤ 33554432) → ((btw u1 v1 ∧ btw u2 v2) ↔ btw (u1 * 67108864 + u2) (v1 * 67108864 + v2)) := by
    intro u1 u2 v1 v2 h hu b1 b2 b3
    rcases hu with hu | ⟨hu, hu2⟩
    · constructor
      · rintro ⟨h1, h2⟩
        have h1' : 0 ≤ v1 ∧ v1 ≤ u1 := by unfold btw at h1; omega
        unfold btw
        by_cases q1 : v1 = 0
        · have : v2 = 0 := by
            rw [q1, Int.mul_zero] at h
            rcases Int.mul_eq_zero.1 (show u1 * v2 = 0 by omega) with h' | h' <;> omega
          omega
        · by_cases q2 : v1 = u1
          · have : v2 = u2 := by
              rw [q2] at h
              have e : u1 * (v2 - u2) = 0 := by rw [Int.mul_sub, Int.mul_comm u1 u2]; omega
              rcases Int.mul_eq_zero.1 e with h' | h' <;> omega
            omega
          · omega
      · intro h1
        have h1' : 0 ≤ v1 ∧ v1 ≤ u1 := by unfold btw at h1; omega
        refine ⟨.inl h1', btw_back hu (show u1 * v2 = v1 * u2 by rw [Int.mul_comm v1 u2]; omega) h1'.1 h1'.2⟩
    · have hv : v1 = 0 := by
        rw [hu, Int.zero_mul] at h
        rcases Int.mul_eq_zero.1 (show u2 * v1 = 0 by omega) with h' | h' <;> omega
      subst hv
      subst hu
      unfold btw
      omega
  by_cases hp : 0 < u1 ∨ (u1 = 0 ∧ 0 < u2)
  · exact key u1 u2 v1 v2 h hp b1 b2 b3
  · have := key (-u1) (-u2) (-v1) (-v2) (by rw [Int.neg_mul_neg, Int.neg_mul_neg]; exact h) (by omega) (by omega) (by omega) (by omega)
    unfold btw at this ⊢
    omega
def kp (p : Pt) : Int := p.1 * 67108864 + p.2
theorem kp_inj {a b : Pt} (ha : May a) (hb : May b) : a = b ↔ kp a = kp b := by
  unfold May at ha hb
  unfold kp
  constructor
  · rintro rfl; rfl
  · intro h; exact pt_ext (by omega) (by omega)
theorem Less_kp {a b : Pt} (ha : May a) (hb : May b) : exact_Less a b = some (decide (kp a < kp b)) := by
  rw [Less_eq]
  congr 1
  rw [Bool.eq_iff_iff]
  simp only [decide_eq_true_eq]
  unfold May at ha hb
  unfold kp
  omega
theorem on_kp {c d a : Pt} (hc : May c) (hd : May d) (ha : May a) (hcd : c ≠ d) (h : crossZ c d a = 0) : On c d a ↔ (kp c ≤ kp a ∧ kp a ≤ kp d) ∨ (kp d ≤ kp a ∧ kp a ≤ kp c) := by
  rw [On_btw]
  unfold May at ha hc hd
  have := lex_btw (u1 := d.1 - c.1) (u2 := d.2 - c.2) (v1 := a.1 - c.1) (v2 := a.2 - c.2) h (ne_way hcd) (by omega) (by omega) (by omega)
  rw [this]
  unfold kp btw
  constructor
  · rintro ⟨_, h⟩; omega
  · intro h'; exact ⟨h, by omega⟩
theorem seg_line_k2_eq {a b c d : Pt} (ha : May a) (hb : May b) (hc : May c) (hd : May d) : seg_line_k2 a b c d = some (if kp b < kp c ∨ kp d < kp a then 0 else if kp b = kp c ∨ kp d = kp a then 1 else 4) := by
  unfold seg_line_k2
  rw [Less_kp hb hc, Less_kp hd ha]
  simp only [bind_some']
  have h1 : decide (b = c) = decide (kp b = kp c) := by rw [Bool.eq_iff_iff]; simp only [decide_eq_true_eq]; exact kp_inj hb hc
  have h2 : decide (d = a) = decide (kp d = kp a) := by rw [Bool.eq_iff_iff]; simp only [decide_eq_true_eq]; exact kp_inj hd ha
  rw [h1, h2]
  by_cases q1 : kp b < kp c <;> by_cases q2 : kp d < kp a <;> by_cases q3 : kp b = kp c <;> by_cases q4 : kp d = kp a <;> simp [q1, q2, q3, q4]
theorem seg_line_eq {a b c d : Pt} (ha : May a) (hb : May b) (hc : May c) (hd : May d) : seg_line a b c d =
    some (if max (kp a) (kp b) < min (kp c) (kp d) ∨ max (kp c) (kp d) < min (kp a) (kp b) then 0 else if max (kp a) (kp b) = min (kp c) (kp d) ∨ max (kp c) (kp d) = min (kp a) (kp b) then 1 else 4) := by
  unfold seg_line seg_line_k1
  rw [Less_kp hb ha, Less_kp hd hc]
  simp only [bind_some', decide_eq_true_eq]
  rw [seg_line_k2_eq hb ha hd hc, seg_line_k2_eq hb ha hc hd, seg_line_k2_eq ha hb hd hc, seg_line_k2_eq ha hb hc hd]
  by_cases q1 : kp b < kp a <;> by_cases q2 : kp d < kp c
  · rw [if_pos q1, if_pos q2, show max (kp a) (kp b) = kp a by omega, show max (kp c) (kp d) = kp c by omega, show min (kp a) (kp b) = kp b by omega, show min (kp c) (kp d) = kp d by omega]
  · rw [if_pos q1, if_neg q2, show max (kp a) (kp b) = kp a by omega, show max (kp c) (kp d) = kp d by omega, show min (kp a) (kp b) = kp b by omega, show min (kp c) (kp d) = kp c by omega]
  · rw [if_neg q1, if_pos q2, show max (kp a) (kp b) = kp b by omega, show max (kp c) (kp d) = kp c by omega, show min (kp a) (kp b) = kp a by omega, show min (kp c) (kp d) = kp d by omega]
  · rw [if_neg q1, if_neg q2, show max (kp a) (kp b) = kp b by omega, show max (kp c) (kp d) = kp d by omega, show min (kp a) (kp b) = kp a by omega, show min (kp c) (kp d) = kp c by omega]
theorem cls_col {a b c d : Pt} (ha : May a) (hb : May b) (hc : May c) (hd : May d) (hab : a ≠ b) (hcd : c ≠ d) (h5 : ¬ ((a = c ∧ b = d) ∨ (a = d ∧ b = c))) (h1 : crossZ a b c = 0) (h2 : crossZ a b d = 0) :
    cls a b c d = if max (kp a) (kp b) < min (kp c) (kp d) ∨ max (kp c) (kp d) < min (kp a) (kp b) then 0 else if max (kp a) (kp b) = min (kp c) (kp d) ∨ max (kp c) (kp d) = min (kp a) (kp b) then 1 else 4 := by
  have h3 := col_sym hab h1 h2
  have o1 := on_kp hc hd ha hcd h3.1
  have o2 := on_kp hc hd hb hcd h3.2
  have o3 := on_kp ha hb hc hab h1
  have o4 := on_kp ha hb hd hab h2
  have i1 := ind_cases (On c d a)
  have i2 := ind_cases (On c d b)
  have i3 := ind_cases (On a b c)
  have i4 := ind_cases (On a b d)
  have j1 := ind_cases (a = c ∨ a = d)
  have j2 := ind_cases (b = c ∨ b = d)
  have k1 := kp_inj ha hc
  have k2 := kp_inj ha hd
  have k3 := kp_inj hb hc
  have k4 := kp_inj hb hd
  have k5 : ¬ kp a = kp b := fun h => hab ((kp_inj ha hb).2 h)
  have k6 : ¬ kp c = kp d := fun h => hcd ((kp_inj hc hd).2 h)
  have h5' : ¬ ((kp a = kp c ∧ kp b = kp d) ∨ (kp a = kp d ∧ kp b = kp c)) := by rw [← k1, ← k2, ← k3, ← k4]; exact h5
  unfold cls
  rw [if_neg h5, h1, h2, h3.1, h3.2]
  simp only [not_true, false_and, if_false]
  unfold nOn nBo
  generalize ind (On c d a) = x1 at *
  generalize ind (On c d b) = x2 at *
  generalize ind (On a b c) = x3 at *
  generalize ind (On a b d) = x4 at *
  generalize ind (a = c ∨ a = d) = x5 at *
  generalize ind (b = c ∨ b = d) = x6 at *
  rw [o1] at i1
  rw [o2] at i2
  rw [o3] at i3
  rw [o4] at i4
  rw [k1, k2] at j1
  rw [k3, k4] at j2
  generalize kp a = A at *
  generalize kp b = B at *
  generalize kp c = C at *
  generalize kp d = D at *
  clear o1 o2 o3 o4 k1 k2 k3 k4 h5 h1 h2 h3 ha hb hc hd hab hcd
  by_cases q1 : max A B < min C D ∨ max C D < min A B
  · have : x1 + x2 + (x3 + x4) - (x5 + x6) = 0 := by omega
    rw [if_pos q1, if_neg (by omega), if_neg (by omega)]
  · rw [if_neg q1]
    by_cases q2 : max A B = min C D ∨ max C D = min A B
    · have : x1 + x2 + (x3 + x4) - (x5 + x6) = 1 := by omega
      have : x5 + x6 = 1 := by omega
      rw [if_pos q2, if_neg (by omega), if_pos (by omega), if_pos (by omega)]
    · have : 1 < x1 + x2 + (x3 + x4) - (x5 + x6) := by omega
      rw [if_neg q2, if_pos (by omega)]
theorem seg_Class_eq {a b c d : Pt} (ha : May a) (hb : May b) (hc : May c) (hd : May d) (hab : a ≠ b) (hcd : c ≠ d) : seg_Class a b c d = some (if cls a b c d = 5 then (5, 0) else (cls a b c d, 0)) := by
  have e5 : (if cls a b c d = 5 then ((5 : Int), (0 : Int)) else (cls a b c d, 0)) = (cls a b c d, 0) := by
    split
    · rename_i h; rw [h]
    · rfl
  rw [e5]
  unfold seg_Class
  rw [Right_true (by simp) (by simp [ha, hb, hc, hd])]
  simp only [bind_some', Bool.not_true, Bool.false_eq_true, if_false, decide_eq_false hab, decide_eq_false hcd, Bool.or_false]
  have e3 : (decide (a = c) && decide (b = d) || decide (a = d) && decide (b = c)) = decide ((a = c ∧ b = d) ∨ (a = d ∧ b = c)) := by
    rw [Bool.eq_iff_iff]; simp
  rw [e3]
  by_cases h5 : (a = c ∧ b = d) ∨ (a = d ∧ b = c)
  · rw [decide_eq_true h5, if_pos rfl]
    unfold cls
    rw [if_pos h5]
  rw [decide_eq_false h5, if_neg Bool.false_ne_true, Turn_eq ha hb hc, Turn_eq ha hb hd, Turn_eq hc hd ha, Turn_eq hc hd hb]
  simp only [bind_some']
  have e4 : (decide (sg (crossZ a b c) = 0) && decide (sg (crossZ a b d) = 0)) = decide (crossZ a b c = 0 ∧ crossZ a b d = 0) := by
    rw [Bool.eq_iff_iff]; simp only [Bool.and_eq_true, decide_eq_true_eq, ← sg_zero_iff]
  rw [e4]
  by_cases hn : crossZ a b c = 0 ∧ crossZ a b d = 0
  · rw [decide_eq_true hn, if_pos rfl, seg_line_eq ha hb hc hd, bind_some', cls_col ha hb hc hd hab hcd h5 hn.1 hn.2]
  · rw [decide_eq_false hn, if_neg Bool.false_ne_true, cls_nc hab hcd h5 hn]
    have s : ∀ n, sg n = 1 ∨ sg n = 0 ∨ sg n = -1 := fun n => by rcases sg_cases n with h | h | h <;> omega
    exact seg_nc (s _) (s _) (s _) (s _) (by rw [← sg_zero_iff, ← sg_zero_iff]; exact hn) (by rw [← sg_zero_iff, ← sg_zero_iff]; exact fun h => hn (col_sym hcd h.1 h.2))
theorem loopO_bad {S R : Type} {body : S → Option (S ⊕ R)} (st : Nat → S) (n : Nat) (ok : Nat → Prop) (no : R) (h1 : ∀ k, k < n → ok k → body (st k) = some (.inl (st (k + 1)))) (h2 : ∀ k, k < n → ¬ ok k → body (st k) = some (.inr no)) (h : ∃ k, k < n ∧ ¬ ok k) : loopO body (st 0) = some no := by
  have hf : ∀ m, m ≤ n → (∃ k, m ≤ k ∧ k < n ∧ ¬ ok k) → loopO body (st m) = some no := fun m hm h => by
    induction hd : n - m generalizing m with
    | zero => obtain ⟨k, h4, h5, _⟩ := h; omega
    | succ d ih =>
      by_cases hk : ok m
      · rw [loopO_inl (h1 m (by omega) hk)]
        obtain ⟨k, h4, h5, h6⟩ := h
        refine ih (m + 1) (by omega) ⟨k, ?_, h5, h6⟩ (by omega)
        by_cases he : k = m
        · subst he; exact (h6 hk).elim
        · omega
      · exact loopO_inr (h2 m (by omega) hk)
  obtain ⟨k, h4, h5⟩ := h
  exact hf 0 (Nat.zero_le _) ⟨k, Nat.zero_le _, h4, h5⟩
theorem lk_up {K V : Type} [DecidableEq K] (k x : K) (v : V) : ∀ D : List (K × V), lkM (upM D k v) x = if x = k then some v else lkM D x
  | [] => rfl
  | p :: r => by
    unfold upM
    by_cases h : k = p.1
    · rw [if_pos h]
      unfold lkM
      by_cases hx : x = k
      · rw [if_pos hx, if_pos hx]
      · rw [if_neg hx, if_neg hx, if_neg (by rw [← h]; exact hx)]
    · rw [if_neg h]
      unfold lkM
      by_cases hx : x = p.1
      · rw [if_pos hx, if_neg (fun h' => h (h'.symm.trans hx)), if_pos hx]
      · rw [if_neg hx, lk_up k x v r, if_neg hx]
def mt (l : List Pt) : List (Pt × Bool) := l.foldl (fun D x => upM D x true) []
theorem mt_snoc (l : List Pt) (x : Pt) : mt (l ++ [x]) = upM (mt l) x true := by simp [mt]
theorem mt_lk (l : List Pt) (x : Pt) (k : Nat) (hk : k ≤ l.length) : (lkM (mt (l.take k)) x).getD false = true ↔ ∃ i, i < k ∧ x = l.getD i (0, 0) := by
  induction k with
  | zero => simp [mt, lkM]
  | succ k ih =>
    rw [snoc_take (0, 0) (by omega), mt_snoc, lk_up]
    by_cases h : x = l.getD k (0, 0)
    · rw [if_pos h]
      exact ⟨fun _ => ⟨k, by omega, h⟩, fun _ => rfl⟩
    · rw [if_neg h, ih (by omega)]
      constructor
      · rintro ⟨i, hi, e⟩; exact ⟨i, by omega, e⟩
      · rintro ⟨i, hi, e⟩
        refine ⟨i, ?_, e⟩
        by_cases hik : i = k
        · subst hik; exact (h e).elim
        · omega
def Dis (l : List Pt) : Prop := ∀ j, j < l.length → ∀ i, i < j → ¬ l.getD j (0, 0) = l.getD i (0, 0)
instance (l : List Pt) : Decidable (Dis l) := by unfold Dis; infer_instance
def pt (l : List Pt) (i : Nat) : Pt := l.getD i (0, 0)
def clR (l : List Pt) (i k : Nat) : Int := cls (pt l i) (pt l ((i + 1) % l.length)) (pt l k) (pt l ((k + 1) % l.length))
def Adj (n i k : Nat) : Prop := k = i + 1 ∨ (i = 0 ∧ k = n - 1)
instance (n i k : Nat) : Decidable (Adj n i k) := by unfold Adj; infer_instance
def PrO (l : List Pt) (i k : Nat) : Prop := clR l i k = if Adj l.length i k then 1 else 0
instance (l : List Pt) (i k : Nat) : Decidable (PrO l i k) := by unfold PrO; infer_instance
def Prs (l : List Pt) : Prop := ∀ k, k < l.length → ∀ i, i < k → PrO l i k
instance (l : List Pt) : Decidable (Prs l) := by unfold Prs; infer_instance
def Simple (l : List Pt) : Prop := (3 ≤ l.length ∧ Ok l) ∧ Dis l ∧ Prs l
instance (l : List Pt) : Decidable (Simple l) := by unfold Simple; infer_instance
theorem Dis_ne {l : List Pt} (h : Dis l) {i j : Nat} (hi : i < l.length) (hj : j < l.length) (hij : i ≠ j) : pt l i ≠ pt l j := by
  intro e
  rcases Nat.lt_or_gt_of_ne hij with q | q
  · exact h j hj i q e.symm
  · exact h i hi j q e
theorem Dis_edge {l : List Pt} (h3 : 3 ≤ l.length) (h : Dis l) {i : Nat} (hi : i < l.length) : pt l i ≠ pt l ((i + 1) % l.length) := by
  have := Nat.mod_lt (i + 1) (show 0 < l.length by omega)
  refine Dis_ne h hi this ?_
  by_cases h1 : i + 1 = l.length
  · rw [h1, Nat.mod_self]; omega
  · rw [Nat.mod_eq_of_lt (by omega)]; omega
theorem Ok_pt {l : List Pt} (h : Ok l) {i : Nat} (hi : i < l.length) : May (pt l i) := h _ (getD_mem hi)
theorem next_lt {n i : Nat} (h : 0 < n) : (i + 1) % n < n := Nat.mod_lt _ h
section
variable {l : List Pt} (hn : l.length ≤ 1000) (h3 : 3 ≤ l.length) (hk : Ok l)
include hn h3 hk
theorem simple_b4 (hd : Dis l) {i k : Nat} (hi : i < k) (hk' : k < l.length) : ring_Simple_b4 l (i : Int) (k : Int) = some (if PrO l i k then .inl ((k + 1 : Nat) : Int) else .inr (.inr false)) := by
  unfold ring_Simple_b4
  have hi' : i < l.length := by omega
  rw [decide_eq_true (show (k : Int) < (l.length : Int) by omega), if_pos rfl, ix_getD (0, 0) hi', bind_some', ad_one (by omega), rm_nat (by omega), bind_some', ix_getD (0, 0) (next_lt (by omega)), bind_some', ix_getD (0, 0) hk', bind_some', ad_one (by omega), rm_nat (by omega), bind_some', ix_getD (0, 0) (next_lt (by omega)), bind_some']
  have hs := seg_Class_eq (Ok_pt hk hi') (Ok_pt hk (i := (i + 1) % l.length) (next_lt (by omega))) (Ok_pt hk hk') (Ok_pt hk (i := (k + 1) % l.length) (next_lt (by omega))) (Dis_edge h3 hd hi') (Dis_edge h3 hd hk')
  have hs' : seg_Class (l.getD i (0, 0)) (l.getD ((i + 1) % l.length) (0, 0)) (l.getD k (0, 0)) (l.getD ((k + 1) % l.length) (0, 0)) = some (clR l i k, 0) := by
    rw [show seg_Class (l.getD i (0, 0)) (l.getD ((i + 1) % l.length) (0, 0)) (l.getD k (0, 0)) (l.getD ((k + 1) % l.length) (0, 0)) = _ from hs]
    unfold clR
    split
    · rename_i h; rw [h]
    · rfl
  rw [hs', bind_some', sb_in (by omega), bind_some', bind_some', bind_some', bind_some']
  have ha : (decide ((k : Int) = ((i + 1 : Nat) : Int)) || (decide ((i : Int) = 0) && decide ((k : Int) = (l.length : Int) - 1))) = decide (Adj l.length i k) := by
    rw [Bool.eq_iff_iff]
    simp only [Bool.or_eq_true, Bool.and_eq_true, decide_eq_true_eq]
    unfold Adj
    omega
  rw [ha]
  have hp : (decide (Adj l.length i k) && !decide (clR l i k = 1) || !decide (Adj l.length i k) && !decide (clR l i k = 0)) = !decide (PrO l i k) := by
    rw [Bool.eq_iff_iff]
    simp only [Bool.or_eq_true, Bool.and_eq_true, Bool.not_eq_true', decide_eq_true_eq, decide_eq_false_iff_not]
    unfold PrO
    by_cases h : Adj l.length i k
    · rw [if_pos h]; simp [h]
    · rw [if_neg h]; simp [h]
  rw [hp]
  by_cases h : PrO l i k
  · rw [decide_eq_true h, if_pos h]; rfl
  · rw [decide_eq_false h, if_neg h]; rfl
theorem simple_l4 (hd : Dis l) {i : Nat} (hi : i < l.length) : ring_Simple_l4 l (i : Int) (ad (i : Int) 1) = some (if ∀ k, k < l.length - (i + 1) → PrO l i (i + 1 + k) then .inl ((i + 1 : Nat) : Int) else .inr false) := by
  unfold ring_Simple_l4
  rw [ad_one (by omega)]
  exact loopO_all (body := fun s => ring_Simple_b4 l (i : Int) s) (fun k => ((i + 1 + k : Nat) : Int)) (l.length - (i + 1)) (fun k => PrO l i (i + 1 + k)) (.inl ((i + 1 : Nat) : Int)) (.inr false)
    (fun k hk' ho => by simp only [simple_b4 hn h3 hk hd (show i < i + 1 + k by omega) (show i + 1 + k < l.length by omega), if_pos ho]; rfl)
    (fun k hk' ho => by simp only [simple_b4 hn h3 hk hd (show i < i + 1 + k by omega) (show i + 1 + k < l.length by omega), if_neg ho])
    (by
      unfold ring_Simple_b4
      rw [decide_eq_false (by omega), if_neg Bool.false_ne_true, ad_one (by omega)]; rfl)
theorem simple_l3 (hd : Dis l) : ring_Simple_l3 l 0 = some (decide (Prs l)) := by
  unfold ring_Simple_l3
  have := loopO_all (body := fun s => ring_Simple_b3 l s) (fun i => (i : Int)) l.length (fun i => ∀ k, k < l.length - (i + 1) → PrO l i (i + 1 + k)) true false
    (fun i hi ho => by
      unfold ring_Simple_b3
      rw [decide_eq_true (by omega), if_pos rfl, simple_l4 hn h3 hk hd hi, if_pos ho])
    (fun i hi ho => by
      unfold ring_Simple_b3
      rw [decide_eq_true (by omega), if_pos rfl, simple_l4 hn h3 hk hd hi, if_neg ho])
    (by
      unfold ring_Simple_b3
      rw [decide_eq_false (by omega), if_neg Bool.false_ne_true]; rfl)
  refine (show loopO _ _ = _ from this).trans ?_
  congr 1
  by_cases h : Prs l
  · rw [decide_eq_true h, if_pos fun i hi k hk' => h (i + 1 + k) (by omega) i (by omega)]
  · rw [decide_eq_false h, if_neg fun h' => h fun k hk' i hi => ?_]
    have := h' i (by omega) (k - (i + 1)) (by omega)
    rwa [show i + 1 + (k - (i + 1)) = k by omega] at this
end
theorem Simple_eq {l : List Pt} (hn : l.length ≤ 1000) : ring_Simple l = some (decide (Simple l)) := by
  unfold ring_Simple
  by_cases h3 : 3 ≤ l.length
  case neg =>
    rw [decide_eq_true (show (l.length : Int) < 3 by omega), decide_eq_false (show ¬ Simple l from fun h => h3 h.1.1)]
    rfl
  rw [decide_eq_false (show ¬ (l.length : Int) < 3 by omega), Ok_eq (by omega)]
  by_cases hk : Ok l
  case neg =>
    rw [decide_eq_false hk, decide_eq_false (show ¬ Simple l from fun h => hk h.1.2)]
    rfl
  rw [decide_eq_true hk]
  show ring_Simple_l2 l (([] : List (Pt × Bool)), 0) = _
  unfold ring_Simple_l2
  have h1 : ∀ k, k < l.length → (¬ ∃ i, i < k ∧ l.getD k (0, 0) = l.getD i (0, 0)) → ring_Simple_b2 l (mt (l.take k)) (k : Int) = some (.inl (mt (l.take (k + 1)), ((k + 1 : Nat) : Int))) := fun k hk' ho => by
    unfold ring_Simple_b2
    have hx : ¬ (lkM (mt (l.take k)) (l.getD k (0, 0))).getD false = true := by rw [mt_lk l _ k (by omega)]; exact ho
    rw [decide_eq_true (show (k : Int) < (l.length : Int) by omega), if_pos rfl, ix_getD (0, 0) hk', bind_some', if_neg hx, bind_some', ad_one (by omega), ← mt_snoc, ← snoc_take (0, 0) hk']
  by_cases hd : Dis l
  · have := loopO_nat (body := fun s => ring_Simple_b2 l s.1 s.2) (fun k => (mt (l.take k), (k : Int))) l.length (decide (Prs l)) (fun k hk' => h1 k hk' (by rintro ⟨i, hi, e⟩; exact hd k hk' i hi e)) (by
        unfold ring_Simple_b2
        simp only
        rw [decide_eq_false (by omega), if_neg Bool.false_ne_true, simple_l3 hn h3 hk hd]; rfl)
    refine (show loopO _ _ = _ from this).trans ?_
    congr 1
    rw [Bool.eq_iff_iff]
    simp only [decide_eq_true_eq]
    exact ⟨fun h => ⟨⟨h3, hk⟩, hd, h⟩, fun h => h.2.2⟩
  · rw [decide_eq_false (show ¬ Simple l from fun h => hd h.2.1)]
    exact loopO_bad (body := fun s => ring_Simple_b2 l s.1 s.2) (fun k => (mt (l.take k), (k : Int))) l.length (fun k => ¬ ∃ i, i < k ∧ l.getD k (0, 0) = l.getD i (0, 0)) false (fun k hk' ho => h1 k hk' ho) (fun k hk' ho => by
        unfold ring_Simple_b2
        have hx : (lkM (mt (l.take k)) (l.getD k (0, 0))).getD false = true := by rw [mt_lk l _ k (by omega)]; exact Classical.not_not.1 ho
        simp only
        rw [decide_eq_true (show (k : Int) < (l.length : Int) by omega), if_pos rfl, ix_getD (0, 0) hk', bind_some', if_pos hx]; rfl) (Classical.byContradiction fun hc => hd fun j hj i hi e => hc ⟨j, hj, fun ho => ho ⟨i, hi, e⟩⟩)
section
variable {l : List Pt} (hn : l.length ≤ 1000) (h3 : 3 ≤ l.length) (hk : Ok l)
include hn h3
end
theorem known03 : law03_known = some true := by
  have h1 : ring_Winding [(0, 0), (4, 0), (4, 4), (0, 4)] (2, 2) = some (1, true) := by
    rw [Winding_eq _ (by simp)]; decide +kernel
  have h2 : ring_Winding [(0, 0), (4, 0), (4, 4), (0, 4)] (4, 2) = some (0, false) := by
    rw [Winding_eq _ (by simp)]; decide +kernel
  have h3 : ring_Beside [(0, 0), (4, 0), (4, 4), (0, 4)] (0, 0) (4, 0) = some (1, true) := by
    rw [Beside_eq _ _ (by simp)]; decide +kernel
  have h4 : ring_Beside [(0, 0), (4, 0), (4, 4), (0, 4)] (4, 0) (0, 0) = some (0, true) := by
    rw [Beside_eq _ _ (by simp)]; decide +kernel
  have h5 : ring_Area [(0, 0), (4, 0), (4, 4), (0, 4)] = some 32 := by
    rw [Area_eq (by simp)]; decide +kernel
  have h6 : ring_Simple [(0, 0), (4, 0), (4, 4), (0, 4)] = some true := by
    rw [Simple_eq (by simp)]; decide +kernel
  unfold law03_known
  rw [h1, h2, show ix [((0 : Int), (0 : Int)), (4, 0), (4, 4), (0, 4)] 0 = some (0, 0) from rfl, show ix [((0 : Int), (0 : Int)), (4, 0), (4, 4), (0, 4)] 1 = some (4, 0) from rfl]
  simp only [bind_some', h3, h4, h5, h6, decide_true, gd_true]
  rfl
def shoe (l : List Pt) : Int := sumZ ((edg l).map fun e => e.1.1 * e.2.2 - e.2.1 * e.1.2)
theorem sum_add {X : Type} (f g : X → Int) : ∀ L : List X, sumZ (L.map fun x => f x + g x) = sumZ (L.map f) + sumZ (L.map g)
  | [] => rfl
  | x :: r => by
    have := sum_add f g r
    simp only [sumZ, List.map_cons, List.foldr_cons] at this ⊢
    omega
theorem sum_neg {X : Type} (f : X → Int) : ∀ L : List X, sumZ (L.map fun x => - f x) = - sumZ (L.map f)
  | [] => rfl
  | x :: r => by
    have := sum_neg f r
    simp only [sumZ, List.map_cons, List.foldr_cons] at this ⊢
    omega
theorem edg_fst (l : List Pt) : (edg l).map Prod.fst = l := by
  unfold edg
  rw [List.map_fst_zip]
  simp; omega
theorem edg_snd (l : List Pt) : (edg l).map Prod.snd = l.drop 1 ++ l.take 1 := by
  unfold edg
  rw [List.map_snd_zip]
  simp; omega
theorem sum_next (f : Pt → Int) (l : List Pt) : sumZ ((edg l).map fun e => f e.2) = sumZ ((edg l).map fun e => f e.1) := by
  have h1 : (edg l).map (fun e => f e.2) = (l.drop 1 ++ l.take 1).map f := by rw [← edg_snd, List.map_map]; rfl
  have h2 : (edg l).map (fun e => f e.1) = l.map f := by
    conv => rhs; rw [← edg_fst l]
    rw [List.map_map]; rfl
  rw [h1, h2]
  refine sumZ_perm (List.Perm.map f ?_)
  have : (l.drop 1 ++ l.take 1).Perm (l.take 1 ++ l.drop 1) := List.perm_append_comm
  rwa [List.take_append_drop] at this
theorem aZ_shoe (l : List Pt) : aZ l = shoe l := by
  unfold aZ shoe
  generalize l.getD 0 (0, 0) = o
  have key : ∀ g : Pt → Int, (∀ e : Pt × Pt, crossZ o e.1 e.2 = (e.1.1 * e.2.2 - e.2.1 * e.1.2) + (g e.2 + - g e.1)) → sumZ ((edg l).map fun e => crossZ o e.1 e.2) = sumZ ((edg l).map fun e => e.1.1 * e.2.2 - e.2.1 * e.1.2) := by
    intro g e
    rw [show (fun e : Pt × Pt => crossZ o e.1 e.2) = fun e => (e.1.1 * e.2.2 - e.2.1 * e.1.2) + (g e.2 + - g e.1) from funext e, sum_add, sum_add (fun e : Pt × Pt => g e.2), sum_neg (fun e : Pt × Pt => g e.1), sum_next g]
    omega
  exact key (fun p => p.1 * o.2 - p.2 * o.1) (fun e => by unfold crossZ; grind)
theorem take40 (l : List Pt) : (l.take 40).length ≤ 40 := by rw [List.length_take]; omega
end Go.Proofs.Ythkmkmkcnljmaaa.Pl
