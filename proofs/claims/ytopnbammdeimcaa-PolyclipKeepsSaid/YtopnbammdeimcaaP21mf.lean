import Derived.Test.YtopnbammdeimcaaP21e
import Derived.Test.YtopnbammdeimcaaJorB
namespace Go.Proofs.Ytopnbammdeimcaa.Pl
set_option maxRecDepth 4000
def btw (u v : Int) : Prop := (0 ≤ v ∧ v ≤ u) ∨ (u ≤ v ∧ v ≤ 0)
theorem between_mul {d L u : Int} (h0 : 0 ≤ d) (hL : d ≤ L) : (0 ≤ u → 0 ≤ d * u ∧ d * u ≤ L * u) ∧ (u ≤ 0 → L * u ≤ d * u ∧ d * u ≤ 0) := by
  constructor
  · intro hu
    exact ⟨Int.mul_nonneg h0 hu, Int.mul_le_mul_of_nonneg_right hL hu⟩
  · intro hu
    have h1 := Int.mul_nonneg h0 (show 0 ≤ -u by omega)
    have h2 := Int.mul_le_mul_of_nonneg_right hL (show 0 ≤ -u by omega)
    rw [Int.mul_neg] at h1 h2
    rw [Int.mul_neg] at h2
    omega
theorem On_btw (a b p : Pt) : On a b p ↔ crossZ a b p = 0 ∧ btw (b.1 - a.1) (p.1 - a.1) ∧ btw (b.2 - a.2) (p.2 - a.2) := by
  unfold On btw
  omega
theorem pt_ext {a b : Pt} (h1 : a.1 = b.1) (h2 : a.2 = b.2) : a = b := Prod.ext h1 h2
theorem crossZ_left (a b : Pt) : crossZ a b a = 0 := by unfold crossZ; grind
theorem crossZ_right (a b : Pt) : crossZ a b b = 0 := by unfold crossZ; grind
theorem crossZ_swap (a b c : Pt) : crossZ b a c = - crossZ a b c := by unfold crossZ; grind
theorem crossZ_turn (a b c : Pt) : crossZ b c a = crossZ a b c := by unfold crossZ; grind
theorem On_left (a b : Pt) : On a b a := by rw [On_btw]; refine ⟨crossZ_left a b, ?_, ?_⟩ <;> unfold btw <;> omega
theorem On_right (a b : Pt) : On a b b := by rw [On_btw]; refine ⟨crossZ_right a b, ?_, ?_⟩ <;> unfold btw <;> omega
theorem On_swap (a b p : Pt) : On b a p ↔ On a b p := by
  unfold On
  rw [crossZ_swap]
  omega
def ind (P : Prop) [Decidable P] : Int := if P then 1 else 0
theorem ind_cases (P : Prop) [Decidable P] : (P ∧ ind P = 1) ∨ (¬ P ∧ ind P = 0) := by
  unfold ind; by_cases h : P <;> simp [h]
def nOn (a b c d : Pt) : Int := ind (On c d a) + ind (On c d b) + (ind (On a b c) + ind (On a b d))
def nBo (a b c d : Pt) : Int := ind (a = c ∨ a = d) + ind (b = c ∨ b = d)
def cls (a b c d : Pt) : Int :=
  if (a = c ∧ b = d) ∨ (a = d ∧ b = c) then 5 else if 1 < nOn a b c d - nBo a b c d then 4 else if nOn a b c d - nBo a b c d = 1 then (if nBo a b c d = 1 then 1 else 2)
  else if ¬ sg (crossZ a b c) = sg (crossZ a b d) ∧ ¬ sg (crossZ c d a) = sg (crossZ c d b) then 3 else 0
theorem cls_sym {a b c d : Pt} (hab : a ≠ b) (hcd : c ≠ d) : cls c d a b = cls a b c d := by
  unfold cls
  have e1 : nOn c d a b = nOn a b c d := by unfold nOn; omega
  have e2 : nBo c d a b = nBo a b c d := by
    unfold nBo
    have h1 := ind_cases (a = c ∨ a = d)
    have h2 := ind_cases (b = c ∨ b = d)
    have h3 := ind_cases (c = a ∨ c = b)
    have h4 := ind_cases (d = a ∨ d = b)
    grind
  rw [e1, e2]
  have e3 : ((c = a ∧ d = b) ∨ (c = b ∧ d = a)) ↔ ((a = c ∧ b = d) ∨ (a = d ∧ b = c)) := by grind
  have e4 : (¬ sg (crossZ c d a) = sg (crossZ c d b) ∧ ¬ sg (crossZ a b c) = sg (crossZ a b d)) ↔ (¬ sg (crossZ a b c) = sg (crossZ a b d) ∧ ¬ sg (crossZ c d a) = sg (crossZ c d b)) := And.comm
  simp only [e3, e4]
theorem prod_neg {u v x y : Int} (h : v * y + (u - v) * x = 0) (hb : btw u v) (hu : u ≠ 0) : ¬ 0 < x * y := by
  intro hxy
  have key : ∀ u v x y : Int, 0 ≤ v → v ≤ u → u ≠ 0 → 0 < x → 0 < y → v * y + (u - v) * x ≠ 0 := by
    intro u v x y h1 h2 h3 h4 h5
    have a1 := Int.mul_nonneg h1 (Int.le_of_lt h5)
    have a2 := Int.mul_nonneg (show 0 ≤ u - v by omega) (Int.le_of_lt h4)
    rcases Int.lt_or_eq_of_le h1 with h | h
    · have := Int.mul_pos h h5; omega
    · have := Int.mul_pos (show 0 < u - v by omega) h4; omega
  have hs : (0 < x ∧ 0 < y) ∨ (x < 0 ∧ y < 0) := by
    rcases Int.lt_trichotomy x 0 with hx | hx | hx
    · right; refine ⟨hx, ?_⟩
      have := Int.neg_mul_neg x y
      rcases Int.lt_or_le y 0 with hy | hy
      · exact hy
      · have := Int.mul_nonneg (show 0 ≤ -x by omega) hy
        rw [Int.neg_mul] at this; omega
    · rw [hx, Int.zero_mul] at hxy; omega
    · left; refine ⟨hx, ?_⟩
      rcases Int.lt_or_le 0 y with hy | hy
      · exact hy
      · have := Int.mul_nonneg (Int.le_of_lt hx) (show 0 ≤ -y by omega)
        rw [Int.mul_neg] at this; omega
  rcases hb with hb | hb <;> rcases hs with hs | hs
  · exact key u v x y hb.1 hb.2 hu hs.1 hs.2 h
  · exact key u v (-x) (-y) hb.1 hb.2 hu (by omega) (by omega) (by rw [Int.mul_neg, Int.mul_neg]; omega)
  · exact key (-u) (-v) x y (by omega) (by omega) (by omega) hs.1 hs.2 (by grind)
  · exact key (-u) (-v) (-x) (-y) (by omega) (by omega) (by omega) (by omega) (by omega) (by grind)
theorem btw_opp {u v x y : Int} (h : v * y + (u - v) * x = 0) (hxy : (0 < x ∧ y < 0) ∨ (x < 0 ∧ 0 < y)) : btw u v := by
  have key : ∀ u v x y : Int, v * y + (u - v) * x = 0 → 0 < x → y < 0 → btw u v := by
    intro u v x y h hx hy
    have e : v * -y = (u - v) * x := by rw [Int.mul_neg]; omega
    unfold btw
    rcases Int.lt_trichotomy v 0 with hv | hv | hv
    · right
      have := Int.mul_pos (show 0 < -v by omega) (show 0 < -y by omega)
      rw [Int.neg_mul, e, ← Int.neg_mul] at this
      have := Int.pos_of_mul_pos_left this hx
      omega
    · subst hv
      rw [Int.zero_mul] at e
      have : u - 0 = 0 := by
        rcases Int.mul_eq_zero.1 e.symm with h | h <;> omega
      omega
    · left
      have := Int.mul_pos hv (show 0 < -y by omega)
      rw [e] at this
      have := Int.pos_of_mul_pos_left this hx
      omega
  rcases hxy with hxy | hxy
  · exact key u v x y h hxy.1 hxy.2
  · exact key u v (-x) (-y) (by rw [Int.mul_neg, Int.mul_neg]; omega) (by omega) (by omega)
theorem one_point {a b c d : Pt} (h1 : crossZ a b c = 0) (h3 : crossZ c d a = 0) (h2 : crossZ a b d ≠ 0) : a = c := by
  have e1 : (c.1 - a.1) * crossZ a b d = 0 := by unfold crossZ at *; grind
  have e2 : (c.2 - a.2) * crossZ a b d = 0 := by unfold crossZ at *; grind
  have f1 := (Int.mul_eq_zero.1 e1).resolve_right h2
  have f2 := (Int.mul_eq_zero.1 e2).resolve_right h2
  exact pt_ext (by omega) (by omega)
theorem ne_way {a b : Pt} (h : a ≠ b) : b.1 - a.1 ≠ 0 ∨ b.2 - a.2 ≠ 0 := by
  rcases Int.decEq (b.1 - a.1) 0 with h1 | h1
  · exact .inl h1
  · right; intro h2; exact h (pt_ext (by omega) (by omega))
section
variable {a b c d : Pt}
theorem col_sym (hcd : c ≠ d) (h3 : crossZ c d a = 0) (h4 : crossZ c d b = 0) : crossZ a b c = 0 ∧ crossZ a b d = 0 := by
  have e1 : (d.1 - c.1) * crossZ a b c = 0 := by unfold crossZ at *; grind
  have e2 : (d.2 - c.2) * crossZ a b c = 0 := by unfold crossZ at *; grind
  have e3 : (d.1 - c.1) * crossZ a b d = 0 := by unfold crossZ at *; grind
  have e4 : (d.2 - c.2) * crossZ a b d = 0 := by unfold crossZ at *; grind
  rcases ne_way hcd with h | h
  · exact ⟨(Int.mul_eq_zero.1 e1).resolve_left h, (Int.mul_eq_zero.1 e3).resolve_left h⟩
  · exact ⟨(Int.mul_eq_zero.1 e2).resolve_left h, (Int.mul_eq_zero.1 e4).resolve_left h⟩
theorem on_way (h3 : crossZ c d a = 0) : (a.1 - c.1) * crossZ a b d + ((d.1 - c.1) - (a.1 - c.1)) * crossZ a b c = 0 ∧ (a.2 - c.2) * crossZ a b d + ((d.2 - c.2) - (a.2 - c.2)) * crossZ a b c = 0 := by
  unfold crossZ at *
  constructor <;> grind
theorem on_nc (hcd : c ≠ d) (hn : ¬ (crossZ a b c = 0 ∧ crossZ a b d = 0)) : On c d a ↔ crossZ c d a = 0 ∧ ¬ 0 < crossZ a b c * crossZ a b d := by
  rw [On_btw]
  constructor
  · rintro ⟨h3, hb1, hb2⟩
    refine ⟨h3, ?_⟩
    have hw := on_way (b := b) h3
    rcases ne_way hcd with h | h
    · exact prod_neg hw.1 hb1 h
    · exact prod_neg hw.2 hb2 h
  · rintro ⟨h3, hp⟩
    have hw := on_way (b := b) h3
    rw [← On_btw]
    by_cases h1 : crossZ a b c = 0
    · rw [one_point h1 h3 (fun h => hn ⟨h1, h⟩)]; exact On_left _ _
    · by_cases h2 : crossZ a b d = 0
      · rw [one_point h2 (by rw [crossZ_swap, h3]; rfl) h1]; exact On_right _ _
      · have hs : (0 < crossZ a b c ∧ crossZ a b d < 0) ∨ (crossZ a b c < 0 ∧ 0 < crossZ a b d) := by
          rcases Int.lt_or_gt_of_ne h1 with q1 | q1 <;> rcases Int.lt_or_gt_of_ne h2 with q2 | q2
          · exact absurd (Int.mul_pos_of_neg_of_neg q1 q2) hp
          · exact .inr ⟨q1, q2⟩
          · exact .inl ⟨q1, q2⟩
          · exact absurd (Int.mul_pos q1 q2) hp
        exact (On_btw _ _ _).2 ⟨h3, btw_opp hw.1 hs, btw_opp hw.2 hs⟩
theorem eq_nc (hn : ¬ (crossZ a b c = 0 ∧ crossZ a b d = 0)) : (a = c ↔ crossZ a b c = 0 ∧ crossZ c d a = 0) := by
  constructor
  · rintro rfl; exact ⟨crossZ_left _ _, crossZ_left _ _⟩
  · rintro ⟨h1, h3⟩; exact one_point h1 h3 (fun h => hn ⟨h1, h⟩)
end
theorem sg_zero_iff (n : Int) : n = 0 ↔ sg n = 0 := by rcases sg_cases n with h | h | h <;> omega
theorem sg_mul_iff (x y : Int) : 0 < x * y ↔ 0 < sg x * sg y := by
  rcases sg_cases x with h | h | h <;> rcases sg_cases y with h' | h' | h' <;> rw [h.2, h'.2]
  · exact ⟨fun _ => by decide, fun _ => Int.mul_pos h.1 h'.1⟩
  · rw [h'.1]; simp
  · have := Int.mul_neg_of_pos_of_neg h.1 h'.1; constructor <;> intro <;> omega
  · rw [h.1]; simp
  · rw [h.1]; simp
  · rw [h.1]; simp
  · have := Int.mul_neg_of_neg_of_pos h.1 h'.1; constructor <;> intro <;> omega
  · rw [h'.1]; simp
  · exact ⟨fun _ => by decide, fun _ => Int.mul_pos_of_neg_of_neg h.1 h'.1⟩
def iB (b : Bool) : Int := if b then 1 else 0
def nOnS (s1 s2 s3 s4 : Int) : Int := iB (decide (s3 = 0) && !decide (0 < s1 * s2)) + iB (decide (s4 = 0) && !decide (0 < s1 * s2)) + (iB (decide (s1 = 0) && !decide (0 < s3 * s4)) + iB (decide (s2 = 0) && !decide (0 < s3 * s4)))
def nBoS (s1 s2 s3 s4 : Int) : Int := iB ((decide (s1 = 0) && decide (s3 = 0)) || (decide (s2 = 0) && decide (s3 = 0))) + iB ((decide (s1 = 0) && decide (s4 = 0)) || (decide (s2 = 0) && decide (s4 = 0)))
def clsS (s1 s2 s3 s4 : Int) : Int :=
  if 1 < nOnS s1 s2 s3 s4 - nBoS s1 s2 s3 s4 then 4 else if nOnS s1 s2 s3 s4 - nBoS s1 s2 s3 s4 = 1 then (if nBoS s1 s2 s3 s4 = 1 then 1 else 2)
  else if ¬ s1 = s2 ∧ ¬ s3 = s4 then 3 else 0
theorem ind_iB {P : Prop} [Decidable P] {b : Bool} (h : P ↔ b = true) : ind P = iB b := by
  unfold ind iB
  by_cases hp : P
  · rw [if_pos hp, if_pos (h.1 hp)]
  · rw [if_neg hp, if_neg (fun hq => hp (h.2 hq))]
theorem cls_nc {a b c d : Pt} (hab : a ≠ b) (hcd : c ≠ d) (h5 : ¬ ((a = c ∧ b = d) ∨ (a = d ∧ b = c))) (hn : ¬ (crossZ a b c = 0 ∧ crossZ a b d = 0)) :
    cls a b c d = clsS (sg (crossZ a b c)) (sg (crossZ a b d)) (sg (crossZ c d a)) (sg (crossZ c d b)) := by
  have hn2 : ¬ (crossZ b a c = 0 ∧ crossZ b a d = 0) := by rw [crossZ_swap a b c, crossZ_swap a b d]; omega
  have hn3 : ¬ (crossZ c d a = 0 ∧ crossZ c d b = 0) := fun h => hn (col_sym hcd h.1 h.2)
  have hn4 : ¬ (crossZ d c a = 0 ∧ crossZ d c b = 0) := by rw [crossZ_swap c d a, crossZ_swap c d b]; omega
  have hn5 : ¬ (crossZ a b d = 0 ∧ crossZ a b c = 0) := fun h => hn h.symm
  have hn6 : ¬ (crossZ b a d = 0 ∧ crossZ b a c = 0) := fun h => hn2 h.symm
  have o1 := on_nc hcd hn
  have o2 := on_nc hcd hn2
  have o3 := on_nc hab hn3
  have o4 := on_nc hab hn4
  rw [crossZ_swap a b c, crossZ_swap a b d, Int.neg_mul_neg] at o2
  rw [crossZ_swap c d a, crossZ_swap c d b, Int.neg_mul_neg] at o4
  have q1 := eq_nc hn
  have q2 := eq_nc hn5
  have q3 := eq_nc hn2
  have q4 := eq_nc hn6
  rw [crossZ_swap c d a] at q2
  rw [crossZ_swap a b c] at q3
  rw [crossZ_swap a b d, crossZ_swap c d b] at q4
  have e1 : nOn a b c d = nOnS (sg (crossZ a b c)) (sg (crossZ a b d)) (sg (crossZ c d a)) (sg (crossZ c d b)) := by
    unfold nOn nOnS
    rw [ind_iB (P := On c d a) (b := decide (sg (crossZ c d a) = 0) && !decide (0 < sg (crossZ a b c) * sg (crossZ a b d))), ind_iB (P := On c d b) (b := decide (sg (crossZ c d b) = 0) && !decide (0 < sg (crossZ a b c) * sg (crossZ a b d))),
      ind_iB (P := On a b c) (b := decide (sg (crossZ a b c) = 0) && !decide (0 < sg (crossZ c d a) * sg (crossZ c d b))), ind_iB (P := On a b d) (b := decide (sg (crossZ a b d) = 0) && !decide (0 < sg (crossZ c d a) * sg (crossZ c d b)))]
    all_goals simp only [Bool.and_eq_true, Bool.not_eq_true', decide_eq_true_eq, decide_eq_false_iff_not, ← sg_zero_iff, ← sg_mul_iff]
    · rw [o4]
    · rw [o3]
    · rw [o2]
    · rw [o1]
  have e2 : nBo a b c d = nBoS (sg (crossZ a b c)) (sg (crossZ a b d)) (sg (crossZ c d a)) (sg (crossZ c d b)) := by
    unfold nBo nBoS
    rw [ind_iB (P := a = c ∨ a = d) (b := (decide (sg (crossZ a b c) = 0) && decide (sg (crossZ c d a) = 0)) || (decide (sg (crossZ a b d) = 0) && decide (sg (crossZ c d a) = 0))),
      ind_iB (P := b = c ∨ b = d) (b := (decide (sg (crossZ a b c) = 0) && decide (sg (crossZ c d b) = 0)) || (decide (sg (crossZ a b d) = 0) && decide (sg (crossZ c d b) = 0)))]
    all_goals simp only [Bool.or_eq_true, Bool.and_eq_true, decide_eq_true_eq, ← sg_zero_iff]
    · rw [q3, q4]; omega
    · rw [q1, q2]; omega
  unfold cls clsS
  rw [if_neg h5, e1, e2]
theorem seg_nc {s1 s2 s3 s4 : Int} (h1 : s1 = 1 ∨ s1 = 0 ∨ s1 = -1) (h2 : s2 = 1 ∨ s2 = 0 ∨ s2 = -1) (h3 : s3 = 1 ∨ s3 = 0 ∨ s3 = -1) (h4 : s4 = 1 ∨ s4 = 0 ∨ s4 = -1) (hn : ¬ (s1 = 0 ∧ s2 = 0)) (hn' : ¬ (s3 = 0 ∧ s4 = 0)) :
    (if (decide (0 < ml s1 s2) || decide (0 < ml s3 s4)) = true then (some ((0 : Int), (0 : Int))) else (if (decide ((ml s1 s2) = 0)) = true then (seg_Class_k1 s3 s4 1) else (seg_Class_k1 s3 s4 0))) = some (clsS s1 s2 s3 s4, 0) := by
  rcases h1 with rfl | rfl | rfl <;> rcases h2 with rfl | rfl | rfl <;> (try (exfalso; exact hn ⟨rfl, rfl⟩)) <;> rcases h3 with rfl | rfl | rfl <;> rcases h4 with rfl | rfl | rfl <;> (first | rfl | (exfalso; exact hn' ⟨rfl, rfl⟩))
theorem btw_back {L d x y : Int} (hL : 0 < L) (hx : L * x = d * y) (h0 : 0 ≤ d) (h1 : d ≤ L) : btw y x := by
  have hm := between_mul (u := y) h0 h1
  rw [← hx] at hm
  rcases Int.le_total 0 y with hy | hy
  · left
    obtain ⟨a, b⟩ := hm.1 hy
    exact ⟨Int.nonneg_of_mul_nonneg_right a hL, Int.le_of_mul_le_mul_left b hL⟩
  · right
    obtain ⟨a, b⟩ := hm.2 hy
    have b' : L * x ≤ L * 0 := by rw [Int.mul_zero]; exact b
    exact ⟨Int.le_of_mul_le_mul_left a hL, Int.le_of_mul_le_mul_left b' hL⟩
theorem lex_btw {u1 u2 v1 v2 : Int} (h : u1 * v2 - u2 * v1 = 0) (hu : u1 ≠ 0 ∨ u2 ≠ 0) (b1 : -33554432 ≤ u2 ∧ u2 ≤ 33554432) (b2 : -33554432 ≤ v2 ∧ v2 ≤ 33554432) (b3 : -33554432 ≤ u2 - v2 ∧ u2 - v2 ≤ 33554432) :
    (btw u1 v1 ∧ btw u2 v2) ↔ btw (u1 * 67108864 + u2) (v1 * 67108864 + v2) := by
  have key : ∀ u1 u2 v1 v2 : Int, u1 * v2 - u2 * v1 = 0 → (0 < u1 ∨ (u1 = 0 ∧ 0 < u2)) → (-33554432 ≤ u2 ∧ u2 ≤ 33554432) → (-33554432 ≤ v2 ∧ v2 ≤ 33554432) → (-33554432 ≤ u2 - v2 ∧ u2 - v2 ≤ 33554432) → ((btw u1 v1 ∧ btw u2 v2) ↔ btw (u1 * 67108864 + u2) (v1 * 67108864 + v2)) := by
    intro u1 u2 v1 v2 h hu b1 b2 b3
    rcases hu with hu | ⟨hu, hu2⟩
    · constructor
      · rintro ⟨h1, h2⟩
        have h1' : 0 ≤ v1 ∧ v1 ≤ u1 := by unfold btw at h1; omega
        unfold btw
        by_cases q1 : v1 = 0
        · have : v2 = 0 := by
            rw [q1, Int.mul_zero] at h
            rcases Int.mul_eq_zero.1 (show u1 * v2 = 0 by omega) with h' | h' <;> omega
          omega
        · by_cases q2 : v1 = u1
          · have : v2 = u2 := by
              rw [q2] at h
              have e : u1 * (v2 - u2) = 0 := by rw [Int.mul_sub, Int.mul_comm u1 u2]; omega
              rcases Int.mul_eq_zero.1 e with h' | h' <;> omega
            omega
          · omega
      · intro h1
        have h1' : 0 ≤ v1 ∧ v1 ≤ u1 := by unfold btw at h1; omega
        refine ⟨.inl h1', btw_back hu (show u1 * v2 = v1 * u2 by rw [Int.mul_comm v1 u2]; omega) h1'.1 h1'.2⟩
    · have hv : v1 = 0 := by
        rw [hu, Int.zero_mul] at h
        rcases Int.mul_eq_zero.1 (show u2 * v1 = 0 by omega) with h' | h' <;> omega
      subst hv
      subst hu
      unfold btw
      omega
  by_cases hp : 0 < u1 ∨ (u1 = 0 ∧ 0 < u2)
  · exact key u1 u2 v1 v2 h hp b1 b2 b3
  · have := key (-u1) (-u2) (-v1) (-v2) (by rw [Int.neg_mul_neg, Int.neg_mul_neg]; exact h) (by omega) (by omega) (by omega) (by omega)
    unfold btw at this ⊢
    omega
def kp (p : Pt) : Int := p.1 * 67108864 + p.2
theorem kp_inj {a b : Pt} (ha : May a) (hb : May b) : a = b ↔ kp a = kp b := by
  unfold May at ha hb
  unfold kp
  constructor
  · rintro rfl; rfl
  · intro h; exact pt_ext (by omega) (by omega)
theorem Less_kp {a b : Pt} (ha : May a) (hb : May b) : exact_Less a b = some (decide (kp a < kp b)) := by
  rw [Less_eq]
  congr 1
  rw [Bool.eq_iff_iff]
  simp only [decide_eq_true_eq]
  unfold May at ha hb
  unfold kp
  omega
theorem on_kp {c d a : Pt} (hc : May c) (hd : May d) (ha : May a) (hcd : c ≠ d) (h : crossZ c d a = 0) : On c d a ↔ (kp c ≤ kp a ∧ kp a ≤ kp d) ∨ (kp d ≤ kp a ∧ kp a ≤ kp c) := by
  rw [On_btw]
  unfold May at ha hc hd
  have := lex_btw (u1 := d.1 - c.1) (u2 := d.2 - c.2) (v1 := a.1 - c.1) (v2 := a.2 - c.2) h (ne_way hcd) (by omega) (by omega) (by omega)
  rw [this]
  unfold kp btw
  constructor
  · rintro ⟨_, h⟩; omega
  · intro h'; exact ⟨h, by omega⟩
theorem seg_line_k2_eq {a b c d : Pt} (ha : May a) (hb : May b) (hc : May c) (hd : May d) : seg_line_k2 a b c d = some (if kp b < kp c ∨ kp d < kp a then 0 else if kp b = kp c ∨ kp d = kp a then 1 else 4) := by
  unfold seg_line_k2
  rw [Less_kp hb hc, Less_kp hd ha]
  simp only [bind_some']
  have h1 : decide (b = c) = decide (kp b = kp c) := by rw [Bool.eq_iff_iff]; simp only [decide_eq_true_eq]; exact kp_inj hb hc
  have h2 : decide (d = a) = decide (kp d = kp a) := by rw [Bool.eq_iff_iff]; simp only [decide_eq_true_eq]; exact kp_inj hd ha
  rw [h1, h2]
  by_cases q1 : kp b < kp c <;> by_cases q2 : kp d < kp a <;> by_cases q3 : kp b = kp c <;> by_cases q4 : kp d = kp a <;> simp [q1, q2, q3, q4]
theorem seg_line_eq {a b c d : Pt} (ha : May a) (hb : May b) (hc : May c) (hd : May d) : seg_line a b c d =
    some (if max (kp a) (kp b) < min (kp c) (kp d) ∨ max (kp c) (kp d) < min (kp a) (kp b) then 0 else if max (kp a) (kp b) = min (kp c) (kp d) ∨ max (kp c) (kp d) = min (kp a) (kp b) then 1 else 4) := by
  unfold seg_line seg_line_k1
  rw [Less_kp hb ha, Less_kp hd hc]
  simp only [bind_some', decide_eq_true_eq]
  rw [seg_line_k2_eq hb ha hd hc, seg_line_k2_eq hb ha hc hd, seg_line_k2_eq ha hb hd hc, seg_line_k2_eq ha hb hc hd]
  by_cases q1 : kp b < kp a <;> by_cases q2 : kp d < kp c
  · rw [if_pos q1, if_pos q2, show max (kp a) (kp b) = kp a by omega, show max (kp c) (kp d) = kp c by omega, show min (kp a) (kp b) = kp b by omega, show min (kp c) (kp d) = kp d by omega]
  · rw [if_pos q1, if_neg q2, show max (kp a) (kp b) = kp a by omega, show max (kp c) (kp d) = kp d by omega, show min (kp a) (kp b) = kp b by omega, show min (kp c) (kp d) = kp c by omega]
  · rw [if_neg q1, if_pos q2, show max (kp a) (kp b) = kp b by omega, show max (kp c) (kp d) = kp c by omega, show min (kp a) (kp b) = kp a by omega, show min (kp c) (kp d) = kp d by omega]
  · rw [if_neg q1, if_neg q2, show max (kp a) (kp b) = kp b by omega, show max (kp c) (kp d) = kp d by omega, show min (kp a) (kp b) = kp a by omega, show min (kp c) (kp d) = kp c by omega]
theorem cls_col {a b c d : Pt} (ha : May a) (hb : May b) (hc : May c) (hd : May d) (hab : a ≠ b) (hcd : c ≠ d) (h5 : ¬ ((a = c ∧ b = d) ∨ (a = d ∧ b = c))) (h1 : crossZ a b c = 0) (h2 : crossZ a b d = 0) :
    cls a b c d = if max (kp a) (kp b) < min (kp c) (kp d) ∨ max (kp c) (kp d) < min (kp a) (kp b) then 0 else if max (kp a) (kp b) = min (kp c) (kp d) ∨ max (kp c) (kp d) = min (kp a) (kp b) then 1 else 4 := by
  have h3 := col_sym hab h1 h2
  have o1 := on_kp hc hd ha hcd h3.1
  have o2 := on_kp hc hd hb hcd h3.2
  have o3 := on_kp ha hb hc hab h1
  have o4 := on_kp ha hb hd hab h2
  have i1 := ind_cases (On c d a)
  have i2 := ind_cases (On c d b)
  have i3 := ind_cases (On a b c)
  have i4 := ind_cases (On a b d)
  have j1 := ind_cases (a = c ∨ a = d)
  have j2 := ind_cases (b = c ∨ b = d)
  have k1 := kp_inj ha hc
  have k2 := kp_inj ha hd
  have k3 := kp_inj hb hc
  have k4 := kp_inj hb hd
  have k5 : ¬ kp a = kp b := fun h => hab ((kp_inj ha hb).2 h)
  have k6 : ¬ kp c = kp d := fun h => hcd ((kp_inj hc hd).2 h)
  have h5' : ¬ ((kp a = kp c ∧ kp b = kp d) ∨ (kp a = kp d ∧ kp b = kp c)) := by rw [← k1, ← k2, ← k3, ← k4]; exact h5
  unfold cls
  rw [if_neg h5, h1, h2, h3.1, h3.2]
  simp only [not_true, false_and, if_false]
  unfold nOn nBo
  generalize ind (On c d a) = x1 at *
  generalize ind (On c d b) = x2 at *
  generalize ind (On a b c) = x3 at *
  generalize ind (On a b d) = x4 at *
  generalize ind (a = c ∨ a = d) = x5 at *
  generalize ind (b = c ∨ b = d) = x6 at *
  rw [o1] at i1
  rw [o2] at i2
  rw [o3] at i3
  rw [o4] at i4
  rw [k1, k2] at j1
  rw [k3, k4] at j2
  generalize kp a = A at *
  generalize kp b = B at *
  generalize kp c = C at *
  generalize kp d = D at *
  clear o1 o2 o3 o4 k1 k2 k3 k4 h5 h1 h2 h3 ha hb hc hd hab hcd
  by_cases q1 : max A B < min C D ∨ max C D < min A B
  · have : x1 + x2 + (x3 + x4) - (x5 + x6) = 0 := by omega
    rw [if_pos q1, if_neg (by omega), if_neg (by omega)]
  · rw [if_neg q1]
    by_cases q2 : max A B = min C D ∨ max C D = min A B
    · have : x1 + x2 + (x3 + x4) - (x5 + x6) = 1 := by omega
      have : x5 + x6 = 1 := by omega
      rw [if_pos q2, if_neg (by omega), if_pos (by omega), if_pos (by omega)]
    · have : 1 < x1 + x2 + (x3 + x4) - (x5 + x6) := by omega
      rw [if_neg q2, if_pos (by omega)]
theorem seg_Class_eq {a b c d : Pt} (ha : May a) (hb : May b) (hc : May c) (hd : May d) (hab : a ≠ b) (hcd : c ≠ d) : seg_Class a b c d = some (if cls a b c d = 5 then (5, 0) else (cls a b c d, 0)) := by
  have e5 : (if cls a b c d = 5 then ((5 : Int), (0 : Int)) else (cls a b c d, 0)) = (cls a b c d, 0) := by
    split
    · rename_i h; rw [h]
    · rfl
  rw [e5]
  unfold seg_Class
  rw [Right_true (by simp) (by simp [ha, hb, hc, hd])]
  simp only [bind_some', Bool.not_true, Bool.false_eq_true, if_false, decide_eq_false hab, decide_eq_false hcd, Bool.or_false]
  have e3 : (decide (a = c) && decide (b = d) || decide (a = d) && decide (b = c)) = decide ((a = c ∧ b = d) ∨ (a = d ∧ b = c)) := by
    rw [Bool.eq_iff_iff]; simp
  rw [e3]
  by_cases h5 : (a = c ∧ b = d) ∨ (a = d ∧ b = c)
  · rw [decide_eq_true h5, if_pos rfl]
    unfold cls
    rw [if_pos h5]
  rw [decide_eq_false h5, if_neg Bool.false_ne_true, Turn_eq ha hb hc, Turn_eq ha hb hd, Turn_eq hc hd ha, Turn_eq hc hd hb]
  simp only [bind_some']
  have e4 : (decide (sg (crossZ a b c) = 0) && decide (sg (crossZ a b d) = 0)) = decide (crossZ a b c = 0 ∧ crossZ a b d = 0) := by
    rw [Bool.eq_iff_iff]; simp only [Bool.and_eq_true, decide_eq_true_eq, ← sg_zero_iff]
  rw [e4]
  by_cases hn : crossZ a b c = 0 ∧ crossZ a b d = 0
  · rw [decide_eq_true hn, if_pos rfl, seg_line_eq ha hb hc hd, bind_some', cls_col ha hb hc hd hab hcd h5 hn.1 hn.2]
  · rw [decide_eq_false hn, if_neg Bool.false_ne_true, cls_nc hab hcd h5 hn]
    have s : ∀ n, sg n = 1 ∨ sg n = 0 ∨ sg n = -1 := fun n => by rcases sg_cases n with h | h | h <;> omega
    exact seg_nc (s _) (s _) (s _) (s _) (by rw [← sg_zero_iff, ← sg_zero_iff]; exact hn) (by rw [← sg_zero_iff, ← sg_zero_iff]; exact fun h => hn (col_sym hcd h.1 h.2))
theorem lk_up {K V : Type} [DecidableEq K] (k x : K) (v : V) : ∀ D : List (K × V), lkM (upM D k v) x = if x = k then some v else lkM D x
  | [] => rfl
  | p :: r => by
    unfold upM
    by_cases h : k = p.1
    · rw [if_pos h]
      unfold lkM
      by_cases hx : x = k
      · rw [if_pos hx, if_pos hx]
      · rw [if_neg hx, if_neg hx, if_neg (by rw [← h]; exact hx)]
    · rw [if_neg h]
      unfold lkM
      by_cases hx : x = p.1
      · rw [if_pos hx, if_neg (fun h' => h (h'.symm.trans hx)), if_pos hx]
      · rw [if_neg hx, lk_up k x v r, if_neg hx]
def mt (l : List Pt) : List (Pt × Bool) := l.foldl (fun D x => upM D x true) []
theorem mt_snoc (l : List Pt) (x : Pt) : mt (l ++ [x]) = upM (mt l) x true := by simp [mt]
theorem mt_lk (l : List Pt) (x : Pt) (k : Nat) (hk : k ≤ l.length) : (lkM (mt (l.take k)) x).getD false = true ↔ ∃ i, i < k ∧ x = l.getD i (0, 0) := by
  induction k with
  | zero => simp [mt, lkM]
  | succ k ih =>
    rw [snoc_take (0, 0) (by omega), mt_snoc, lk_up]
    by_cases h : x = l.getD k (0, 0)
    · rw [if_pos h]
      exact ⟨fun _ => ⟨k, by omega, h⟩, fun _ => rfl⟩
    · rw [if_neg h, ih (by omega)]
      constructor
      · rintro ⟨i, hi, e⟩; exact ⟨i, by omega, e⟩
      · rintro ⟨i, hi, e⟩
        refine ⟨i, ?_, e⟩
        by_cases hik : i = k
        · subst hik; exact (h e).elim
        · omega
def Dis (l : List Pt) : Prop := ∀ j, j < l.length → ∀ i, i < j → ¬ l.getD j (0, 0) = l.getD i (0, 0)
instance (l : List Pt) : Decidable (Dis l) := by unfold Dis; infer_instance
def pt (l : List Pt) (i : Nat) : Pt := l.getD i (0, 0)
def clR (l : List Pt) (i k : Nat) : Int := cls (pt l i) (pt l ((i + 1) % l.length)) (pt l k) (pt l ((k + 1) % l.length))
def Adj (n i k : Nat) : Prop := k = i + 1 ∨ (i = 0 ∧ k = n - 1)
instance (n i k : Nat) : Decidable (Adj n i k) := by unfold Adj; infer_instance
def PrO (l : List Pt) (i k : Nat) : Prop := clR l i k = if Adj l.length i k then 1 else 0
instance (l : List Pt) (i k : Nat) : Decidable (PrO l i k) := by unfold PrO; infer_instance
def Prs (l : List Pt) : Prop := ∀ k, k < l.length → ∀ i, i < k → PrO l i k
instance (l : List Pt) : Decidable (Prs l) := by unfold Prs; infer_instance
def Simple (l : List Pt) : Prop := (3 ≤ l.length ∧ Ok l) ∧ Dis l ∧ Prs l
instance (l : List Pt) : Decidable (Simple l) := by unfold Simple; infer_instance
theorem Dis_ne {l : List Pt} (h : Dis l) {i j : Nat} (hi : i < l.length) (hj : j < l.length) (hij : i ≠ j) : pt l i ≠ pt l j := by
  intro e
  rcases Nat.lt_or_gt_of_ne hij with q | q
  · exact h j hj i q e.symm
  · exact h i hi j q e
theorem Dis_edge {l : List Pt} (h3 : 3 ≤ l.length) (h : Dis l) {i : Nat} (hi : i < l.length) : pt l i ≠ pt l ((i + 1) % l.length) := by
  have := Nat.mod_lt (i + 1) (show 0 < l.length by omega)
  refine Dis_ne h hi this ?_
  by_cases h1 : i + 1 = l.length
  · rw [h1, Nat.mod_self]; omega
  · rw [Nat.mod_eq_of_lt (by omega)]; omega
theorem Ok_pt {l : List Pt} (h : Ok l) {i : Nat} (hi : i < l.length) : May (pt l i) := h _ (getD_mem hi)
theorem next_lt {n i : Nat} (h : 0 < n) : (i + 1) % n < n := Nat.mod_lt _ h
section
variable {l : List Pt} (hn : l.length ≤ 1000) (h3 : 3 ≤ l.length) (hk : Ok l)
include hn h3 hk
theorem simple_b4 (hd : Dis l) {i k : Nat} (hi : i < k) (hk' : k < l.length) : ring_Simple_b4 l (i : Int) (k : Int) = some (if PrO l i k then .inl ((k + 1 : Nat) : Int) else .inr (.inr false)) := by
  unfold ring_Simple_b4
  have hi' : i < l.length := by omega
  rw [decide_eq_true (show (k : Int) < (l.length : Int) by omega), if_pos rfl, ix_getD (0, 0) hi', bind_some', ad_one (by omega), rm_nat (by omega), bind_some', ix_getD (0, 0) (next_lt (by omega)), bind_some', ix_getD (0, 0) hk', bind_some', ad_one (by omega), rm_nat (by omega), bind_some', ix_getD (0, 0) (next_lt (by omega)), bind_some']
  have hs := seg_Class_eq (Ok_pt hk hi') (Ok_pt hk (i := (i + 1) % l.length) (next_lt (by omega))) (Ok_pt hk hk') (Ok_pt hk (i := (k + 1) % l.length) (next_lt (by omega))) (Dis_edge h3 hd hi') (Dis_edge h3 hd hk')
  have hs' : seg_Class (l.getD i (0, 0)) (l.getD ((i + 1) % l.length) (0, 0)) (l.getD k (0, 0)) (l.getD ((k + 1) % l.length) (0, 0)) = some (clR l i k, 0) := by
    rw [show seg_Class (l.getD i (0, 0)) (l.getD ((i + 1) % l.length) (0, 0)) (l.getD k (0, 0)) (l.getD ((k + 1) % l.length) (0, 0)) = _ from hs]
    unfold clR
    split
    · rename_i h; rw [h]
    · rfl
  rw [hs', bind_some', sb_in (by omega), bind_some', bind_some', bind_some', bind_some']
  have ha : (decide ((k : Int) = ((i + 1 : Nat) : Int)) || (decide ((i : Int) = 0) && decide ((k : Int) = (l.length : Int) - 1))) = decide (Adj l.length i k) := by
    rw [Bool.eq_iff_iff]
    simp only [Bool.or_eq_true, Bool.and_eq_true, decide_eq_true_eq]
    unfold Adj
    omega
  rw [ha]
  have hp : (decide (Adj l.length i k) && !decide (clR l i k = 1) || !decide (Adj l.length i k) && !decide (clR l i k = 0)) = !decide (PrO l i k) := by
    rw [Bool.eq_iff_iff]
    simp only [Bool.or_eq_true, Bool.and_eq_true, Bool.not_eq_true', decide_eq_true_eq, decide_eq_false_iff_not]
    unfold PrO
    by_cases h : Adj l.length i k
    · rw [if_pos h]; simp [h]
    · rw [if_neg h]; simp [h]
  rw [hp]
  by_cases h : PrO l i k
  · rw [decide_eq_true h, if_pos h]; rfl
  · rw [decide_eq_false h, if_neg h]; rfl
theorem simple_l4 (hd : Dis l) {i : Nat} (hi : i < l.length) : ring_Simple_l4 l (i : Int) (ad (i : Int) 1) = some (if ∀ k, k < l.length - (i + 1) → PrO l i (i + 1 + k) then .inl ((i + 1 : Nat) : Int) else .inr false) := by
  unfold ring_Simple_l4
  rw [ad_one (by omega)]
  exact loopO_all (body := fun s => ring_Simple_b4 l (i : Int) s) (fun k => ((i + 1 + k : Nat) : Int)) (l.length - (i + 1)) (fun k => PrO l i (i + 1 + k)) (.inl ((i + 1 : Nat) : Int)) (.inr false)
    (fun k hk' ho => by simp only [simple_b4 hn h3 hk hd (show i < i + 1 + k by omega) (show i + 1 + k < l.length by omega), if_pos ho]; rfl)
    (fun k hk' ho => by simp only [simple_b4 hn h3 hk hd (show i < i + 1 + k by omega) (show i + 1 + k < l.length by omega), if_neg ho])
    (by
      unfold ring_Simple_b4
      rw [decide_eq_false (by omega), if_neg Bool.false_ne_true, ad_one (by omega)]; rfl)
theorem simple_l3 (hd : Dis l) : ring_Simple_l3 l 0 = some (decide (Prs l)) := by
  unfold ring_Simple_l3
  have := loopO_all (body := fun s => ring_Simple_b3 l s) (fun i => (i : Int)) l.length (fun i => ∀ k, k < l.length - (i + 1) → PrO l i (i + 1 + k)) true false
    (fun i hi ho => by
      unfold ring_Simple_b3
      rw [decide_eq_true (by omega), if_pos rfl, simple_l4 hn h3 hk hd hi, if_pos ho])
    (fun i hi ho => by
      unfold ring_Simple_b3
      rw [decide_eq_true (by omega), if_pos rfl, simple_l4 hn h3 hk hd hi, if_neg ho])
    (by
      unfold ring_Simple_b3
      rw [decide_eq_false (by omega), if_neg Bool.false_ne_true]; rfl)
  refine (show loopO _ _ = _ from this).trans ?_
  congr 1
  by_cases h : Prs l
  · rw [decide_eq_true h, if_pos fun i hi k hk' => h (i + 1 + k) (by omega) i (by omega)]
  · rw [decide_eq_false h, if_neg fun h' => h fun k hk' i hi => ?_]
    have := h' i (by omega) (k - (i + 1)) (by omega)
    rwa [show i + 1 + (k - (i + 1)) = k by omega] at this
end
theorem Simple_eq {l : List Pt} (hn : l.length ≤ 1000) : ring_Simple l = some (decide (Simple l)) := by
  unfold ring_Simple
  by_cases h3 : 3 ≤ l.length
  case neg =>
    rw [decide_eq_true (show (l.length : Int) < 3 by omega), decide_eq_false (show ¬ Simple l from fun h => h3 h.1.1)]
    rfl
  rw [decide_eq_false (show ¬ (l.length : Int) < 3 by omega), Ok_eq (by omega)]
  by_cases hk : Ok l
  case neg =>
    rw [decide_eq_false hk, decide_eq_false (show ¬ Simple l from fun h => hk h.1.2)]
    rfl
  rw [decide_eq_true hk]
  show ring_Simple_l2 l (([] : List (Pt × Bool)), 0) = _
  unfold ring_Simple_l2
  have h1 : ∀ k, k < l.length → (¬ ∃ i, i < k ∧ l.getD k (0, 0) = l.getD i (0, 0)) → ring_Simple_b2 l (mt (l.take k)) (k : Int) = some (.inl (mt (l.take (k + 1)), ((k + 1 : Nat) : Int))) := fun k hk' ho => by
    unfold ring_Simple_b2
    have hx : ¬ (lkM (mt (l.take k)) (l.getD k (0, 0))).getD false = true := by rw [mt_lk l _ k (by omega)]; exact ho
    rw [decide_eq_true (show (k : Int) < (l.length : Int) by omega), if_pos rfl, ix_getD (0, 0) hk', bind_some', if_neg hx, bind_some', ad_one (by omega), ← mt_snoc, ← snoc_take (0, 0) hk']
  by_cases hd : Dis l
  · have := loopO_nat (body := fun s => ring_Simple_b2 l s.1 s.2) (fun k => (mt (l.take k), (k : Int))) l.length (decide (Prs l)) (fun k hk' => h1 k hk' (by rintro ⟨i, hi, e⟩; exact hd k hk' i hi e)) (by
        unfold ring_Simple_b2
        simp only
        rw [decide_eq_false (by omega), if_neg Bool.false_ne_true, simple_l3 hn h3 hk hd]; rfl)
    refine (show loopO _ _ = _ from this).trans ?_
    congr 1
    rw [Bool.eq_iff_iff]
    simp only [decide_eq_true_eq]
    exact ⟨fun h => ⟨⟨h3, hk⟩, hd, h⟩, fun h => h.2.2⟩
  · rw [decide_eq_false (show ¬ Simple l from fun h => hd h.2.1)]
    exact loopO_bad (body := fun s => ring_Simple_b2 l s.1 s.2) (fun k => (mt (l.take k), (k : Int))) l.length (fun k => ¬ ∃ i, i < k ∧ l.getD k (0, 0) = l.getD i (0, 0)) false (fun k hk' ho => h1 k hk' ho) (fun k hk' ho => by
        unfold ring_Simple_b2
        have hx : (lkM (mt (l.take k)) (l.getD k (0, 0))).getD false = true := by rw [mt_lk l _ k (by omega)]; exact Classical.not_not.1 ho
        simp only
        rw [decide_eq_true (show (k : Int) < (l.length : Int) by omega), if_pos rfl, ix_getD (0, 0) hk', bind_some', if_pos hx]; rfl) (Classical.byContradiction fun hc => hd fun j hj i hi e => hc ⟨j, hj, fun ho => ho ⟨i, hi, e⟩⟩)
set_option maxRecDepth 4000
def Yl (σ : Int) (p : Pt) : Int := 134217728 * p.2 - σ * p.1
def emb (σ : Int) (p : Pt) : Jor.Q2 := ((p.1 : Rat), (Yl σ p : Rat))
theorem Yl_inj {σ : Int} (hσ : σ = 1 ∨ σ = -1) {p q : Pt} (hp : May p) (hq : May q) (h : Yl σ p = Yl σ q) : p = q := by
  unfold Yl at h
  unfold May at hp hq
  rcases hσ with rfl | rfl <;> exact pt_ext (by omega) (by omega)
theorem cast_lt {a b : Int} : ((a : Rat) < (b : Rat)) ↔ a < b := Rat.intCast_lt_intCast
theorem cast_le {a b : Int} : ((a : Rat) ≤ (b : Rat)) ↔ a ≤ b := Rat.intCast_le_intCast
theorem cast_eq {a b : Int} : ((a : Rat) = (b : Rat)) ↔ a = b := Rat.intCast_inj
theorem xat_cross {A B : Jor.Q2} (h : A.2 ≠ B.2) (x t : Rat) : (Jor.xat A B t - x) * (B.2 - A.2) = (B.1 - A.1) * (t - A.2) - (B.2 - A.2) * (x - A.1) := by
  unfold Jor.xat
  have := Rat.div_mul_cancel (a := B.1 - A.1) (b := B.2 - A.2) (by grind)
  grind
theorem prod_sign (u v : Int) : (0 < u → (0 < u * v ↔ 0 < v) ∧ (u * v < 0 ↔ v < 0)) ∧ (u < 0 → (0 < u * v ↔ v < 0) ∧ (u * v < 0 ↔ 0 < v)) ∧ (u = 0 → u * v = 0) := by
  refine ⟨fun hu => ?_, fun hu => ?_, fun hu => by rw [hu, Int.zero_mul]⟩
  · rcases Int.lt_trichotomy v 0 with h | h | h
    · have := Int.mul_neg_of_pos_of_neg hu h; omega
    · rw [h, Int.mul_zero]; omega
    · have := Int.mul_pos hu h; omega
  · rcases Int.lt_trichotomy v 0 with h | h | h
    · have := Int.mul_pos_of_neg_of_neg hu h; omega
    · rw [h, Int.mul_zero]; omega
    · have := Int.mul_neg_of_neg_of_pos hu h; omega
def Lo (σ k : Int) (m : Pt) (y : Int) : Prop := if σ = 1 then k * y ≤ m.2 else k * y < m.2
instance (σ k : Int) (m : Pt) (y : Int) : Decidable (Lo σ k m y) := by unfold Lo; infer_instance
theorem Lo_one (k : Int) (m : Pt) (y : Int) : Lo 1 k m y ↔ k * y ≤ m.2 := by unfold Lo; rw [if_pos rfl]
theorem Lo_neg (k : Int) (m : Pt) (y : Int) : Lo (-1) k m y ↔ k * y < m.2 := by unfold Lo; rw [if_neg (by decide)]
def sdK (k : Int) (m c d : Pt) : Int := (d.1 - c.1) * (m.2 - k * c.2) - (d.2 - c.2) * (m.1 - k * c.1)
def cntK (σ k : Int) (m c d : Pt) : Int := if (Lo σ k m c.2 ∧ ¬ Lo σ k m d.2) ∧ 0 < sdK k m c d then 1 else if (Lo σ k m d.2 ∧ ¬ Lo σ k m c.2) ∧ sdK k m c d < 0 then -1 else 0
def MayK (k : Int) (m : Pt) : Prop := -16777216 * k ≤ m.1 ∧ m.1 ≤ 16777216 * k ∧ -16777216 * k ≤ m.2 ∧ m.2 ≤ 16777216 * k
theorem rat_pos_iff {p q r : Rat} (hq : 0 < q) (h : p * q = r) : (0 < p ↔ 0 < r) := by
  constructor
  · intro hp
    have := Rat.mul_pos hp hq
    grind
  · intro hr
    refine Rat.not_le.1 fun hp => ?_
    have := Rat.mul_nonneg (show 0 ≤ -p by grind) (show 0 ≤ q by grind)
    grind
theorem bl_cast {k : Int} (hk : 0 < k) {y Ym : Int} {t : Rat} (ht : (k : Rat) * t = (Ym : Rat)) : Jor.bl (y : Rat) t = if k * y < Ym then 1 else 0 := by
  unfold Jor.bl
  have hk' : (0 : Rat) < (k : Rat) := by exact_mod_cast hk
  have e : ((k * y : Int) : Rat) = (k : Rat) * (y : Rat) := by push_cast; rfl
  have h1 := rat_pos_iff (p := t - (y : Rat)) (q := (k : Rat)) (r := (Ym : Rat) - ((k * y : Int) : Rat)) hk' (by rw [e]; grind)
  have h2 : ((y : Rat) < t) ↔ k * y < Ym := by
    rw [← cast_lt]; grind
  by_cases h : k * y < Ym
  · rw [if_pos h, if_pos (h2.2 h)]
  · rw [if_neg h, if_neg (fun hh => h (h2.1 hh))]
theorem rt_cast {σ k : Int} (hσ : σ = 1 ∨ σ = -1) (hk : 0 < k) {c d m : Pt} (hcd : Yl σ c ≠ Yl σ d) {x t : Rat} (hx : (k : Rat) * x = (m.1 : Rat)) (ht : (k : Rat) * t = (Yl σ m : Rat)) :
    Jor.rt x (emb σ c) (emb σ d) t = if (if Yl σ c < Yl σ d then 0 < sdK k m c d else sdK k m c d < 0) then (if k * Yl σ c < Yl σ m then 1 else 0) - (if k * Yl σ d < Yl σ m then 1 else 0) else 0 := by
  have hk' : (0 : Rat) < (k : Rat) := by exact_mod_cast hk
  have hne : (emb σ c).2 ≠ (emb σ d).2 := fun e => hcd (cast_eq.1 e)
  have e := xat_cross hne x t
  have e2 : (Jor.xat (emb σ c) (emb σ d) t - x) * (((Yl σ d - Yl σ c : Int) : Rat) * (k : Rat)) = 134217728 * ((sdK k m c d : Int) : Rat) := by
    have q1 : ((Yl σ d - Yl σ c : Int) : Rat) = (emb σ d).2 - (emb σ c).2 := by unfold emb; push_cast; rfl
    have q2 : ((sdK k m c d : Int) : Rat) = ((d.1 : Rat) - c.1) * ((m.2 : Rat) - k * c.2) - ((d.2 : Rat) - c.2) * ((m.1 : Rat) - k * c.1) := by unfold sdK; push_cast; rfl
    have q3 : ∀ p : Pt, (Yl σ p : Rat) = 134217728 * (p.2 : Rat) - (σ : Rat) * (p.1 : Rat) := fun p => by unfold Yl; push_cast; rfl
    rw [q1, q2]
    unfold emb at e ⊢
    dsimp only at e ⊢
    rw [q3] at ht
    rw [q3, q3] at e ⊢
    grind
  have hiff : (x < Jor.xat (emb σ c) (emb σ d) t) ↔ (if Yl σ c < Yl σ d then 0 < sdK k m c d else sdK k m c d < 0) := by
    by_cases hlt : Yl σ c < Yl σ d
    · rw [if_pos hlt]
      have hd : (0 : Rat) < ((Yl σ d - Yl σ c : Int) : Rat) := by exact_mod_cast (show 0 < Yl σ d - Yl σ c by omega)
      have := rat_pos_iff (Rat.mul_pos hd hk') e2
      have h0 : (0 < sdK k m c d) ↔ (0 : Rat) < ((sdK k m c d : Int) : Rat) := by exact_mod_cast Iff.rfl
      rw [h0]; grind
    · rw [if_neg hlt]
      have hd : (0 : Rat) < ((Yl σ c - Yl σ d : Int) : Rat) := by exact_mod_cast (show 0 < Yl σ c - Yl σ d by omega)
      have q : ((Yl σ c - Yl σ d : Int) : Rat) = - ((Yl σ d - Yl σ c : Int) : Rat) := by push_cast; grind
      have := rat_pos_iff (p := Jor.xat (emb σ c) (emb σ d) t - x) (r := - (134217728 * ((sdK k m c d : Int) : Rat))) (Rat.mul_pos hd hk') (by rw [q]; grind)
      have h0 : (sdK k m c d < 0) ↔ ((sdK k m c d : Int) : Rat) < (0 : Rat) := by exact_mod_cast Iff.rfl
      rw [h0]; grind
  have b1 : Jor.sg (emb σ c) (emb σ d) t = (if k * Yl σ c < Yl σ m then 1 else 0) - (if k * Yl σ d < Yl σ m then 1 else 0) := by
    unfold Jor.sg
    rw [show (emb σ c).2 = (Yl σ c : Rat) from rfl, show (emb σ d).2 = (Yl σ d : Rat) from rfl, bl_cast hk ht, bl_cast hk ht]
  unfold Jor.rt
  rw [b1]
  by_cases hh : x < Jor.xat (emb σ c) (emb σ d) t
  · rw [if_pos hh, if_pos (hiff.1 hh)]
  · rw [if_neg hh, if_neg (fun h => hh (hiff.2 h))]
theorem core {σ k : Int} (hσ : σ = 1 ∨ σ = -1) (hk : k = 1 ∨ k = 2) {c d m : Pt} (hc : May c) (hd : May d) (hm : MayK k m) {x t : Rat} (hx : (k : Rat) * x = (m.1 : Rat)) (ht : (k : Rat) * t = (Yl σ m : Rat)) :
    Jor.rt x (emb σ c) (emb σ d) t = cntK σ k m c d := by
  by_cases hcd : Yl σ c = Yl σ d
  · have := Yl_inj hσ hc hd hcd
    subst this
    have h1 : Jor.rt x (emb σ c) (emb σ c) t = 0 := by unfold Jor.rt Jor.sg; split <;> omega
    have h2 : sdK k m c c = 0 := by unfold sdK; grind
    rw [h1]
    unfold cntK
    rw [h2, if_neg (by omega), if_neg (by omega)]
  · rw [rt_cast hσ (by omega) hcd hx ht]
    unfold May at hc hd
    unfold MayK at hm
    have p1 := prod_sign (d.2 - c.2) (k * c.1 - m.1)
    have p2 := prod_sign (d.2 - c.2) (k * d.1 - m.1)
    have s1 : m.2 = k * c.2 → sdK k m c d = (d.2 - c.2) * (k * c.1 - m.1) := fun h => by unfold sdK; rw [h]; grind
    have s2 : m.2 = k * d.2 → sdK k m c d = (d.2 - c.2) * (k * d.1 - m.1) := fun h => by unfold sdK; rw [h]; grind
    unfold cntK
    unfold Yl at *
    generalize sdK k m c d = s at *
    generalize (d.2 - c.2) * (k * c.1 - m.1) = z1 at *
    generalize (d.2 - c.2) * (k * d.1 - m.1) = z2 at *
    clear hx ht
    rcases hσ with rfl | rfl <;> rcases hk with rfl | rfl <;> simp only [Lo_one, Lo_neg] <;> (repeat' split) <;> omega
set_option maxRecDepth 4000
theorem no_same {p q u v t : Rat} (h : (v - t) * p + (t - u) * q = 0) (hne : u ≠ v) (ht : (u ≤ t ∧ t ≤ v) ∨ (v ≤ t ∧ t ≤ u)) : ¬ (0 < p ∧ 0 < q) ∧ ¬ (p < 0 ∧ q < 0) := by
  have go : ∀ p q : Rat, (v - t) * p + (t - u) * q = 0 → ¬ (0 < p ∧ 0 < q) := fun p q h ⟨hp, hq⟩ => by
    rcases ht with ⟨h1, h2⟩ | ⟨h1, h2⟩
    · have a1 := Rat.mul_nonneg (show 0 ≤ v - t by grind) (show 0 ≤ p by grind)
      have a2 := Rat.mul_nonneg (show 0 ≤ t - u by grind) (show 0 ≤ q by grind)
      by_cases e : t = v
      · have a3 := Rat.mul_pos (show 0 < t - u by grind) hq
        grind
      · have a3 := Rat.mul_pos (show 0 < v - t by grind) hp
        grind
    · have a1 := Rat.mul_nonneg (show 0 ≤ t - v by grind) (show 0 ≤ p by grind)
      have a2 := Rat.mul_nonneg (show 0 ≤ u - t by grind) (show 0 ≤ q by grind)
      by_cases e : t = v
      · have a3 := Rat.mul_pos (show 0 < u - t by grind) hq
        grind
      · have a3 := Rat.mul_pos (show 0 < t - v by grind) hp
        grind
  refine ⟨go p q h, fun ⟨hp, hq⟩ => go (-p) (-q) (by grind) ⟨by grind, by grind⟩⟩
section
variable {σ : Int} (hσ : σ = 1 ∨ σ = -1)
include hσ
theorem OnL {c d a : Pt} (hc : May c) (hd : May d) (hcd : c ≠ d) (h : crossZ c d a = 0) (hl : (Yl σ c ≤ Yl σ a ∧ Yl σ a ≤ Yl σ d) ∨ (Yl σ d ≤ Yl σ a ∧ Yl σ a ≤ Yl σ c)) : On c d a := by
  have go : ∀ c d : Pt, May c → May d → c ≠ d → crossZ c d a = 0 → Yl σ c ≤ Yl σ a → Yl σ a ≤ Yl σ d → On c d a := fun c d hc hd hcd h h1 h2 => by
    rw [On_btw]
    have hne : Yl σ c ≠ Yl σ d := fun e => hcd (Yl_inj hσ hc hd e)
    have e1 : (Yl σ d - Yl σ c) * (a.1 - c.1) = (Yl σ a - Yl σ c) * (d.1 - c.1) := by
      unfold crossZ at h
      unfold Yl
      grind
    have e2 : (Yl σ d - Yl σ c) * (a.2 - c.2) = (Yl σ a - Yl σ c) * (d.2 - c.2) := by
      unfold crossZ at h
      unfold Yl
      rcases hσ with rfl | rfl <;> grind
    exact ⟨h, btw_back (L := Yl σ d - Yl σ c) (d := Yl σ a - Yl σ c) (by omega) e1 (by omega) (by omega), btw_back (L := Yl σ d - Yl σ c) (d := Yl σ a - Yl σ c) (by omega) e2 (by omega) (by omega)⟩
  rcases hl with ⟨h1, h2⟩ | ⟨h1, h2⟩
  · exact go c d hc hd hcd h h1 h2
  · rw [← On_swap]
    exact go d c hd hc (fun e => hcd e.symm) (by rw [crossZ_swap, h]; rfl) h1 h2
omit hσ in
theorem on_both {a b c d : Pt} (hA : (emb σ a).2 ≠ (emb σ b).2) (hC : (emb σ c).2 ≠ (emb σ d).2) {t : Rat} (he : Jor.xat (emb σ c) (emb σ d) t = Jor.xat (emb σ a) (emb σ b) t) :
    ((Yl σ d : Rat) - t) * ((crossZ a b c : Int) : Rat) + (t - (Yl σ c : Rat)) * ((crossZ a b d : Int) : Rat) = 0 := by
  have e1 := xat_cross hA (Jor.xat (emb σ a) (emb σ b) t) t
  have e2 := xat_cross hC (Jor.xat (emb σ a) (emb σ b) t) t
  rw [he] at e2
  generalize Jor.xat (emb σ a) (emb σ b) t = x at *
  have q3 : ∀ p : Pt, (Yl σ p : Rat) = 134217728 * (p.2 : Rat) - (σ : Rat) * (p.1 : Rat) := fun p => by unfold Yl; push_cast; rfl
  have q2 : ∀ p : Pt, ((crossZ a b p : Int) : Rat) = ((b.1 : Rat) - a.1) * ((p.2 : Rat) - a.2) - ((b.2 : Rat) - a.2) * ((p.1 : Rat) - a.1) := fun p => by unfold crossZ; push_cast; rfl
  unfold emb at e1 e2 hC
  dsimp only at e1 e2 hC
  rw [q2, q2]
  rw [q3, q3] at e1 e2 ⊢
  grind
omit hσ in
theorem spn_cast {a b : Pt} {t : Rat} (h : Jor.spn (emb σ a) (emb σ b) t) : ((Yl σ a : Rat) ≤ t ∧ t ≤ (Yl σ b : Rat)) ∨ ((Yl σ b : Rat) ≤ t ∧ t ≤ (Yl σ a : Rat)) := h
omit hσ in
theorem overlap {a b c d : Int} {t : Rat} (h1 : ((a : Rat) ≤ t ∧ t ≤ (b : Rat)) ∨ ((b : Rat) ≤ t ∧ t ≤ (a : Rat))) (h2 : ((c : Rat) ≤ t ∧ t ≤ (d : Rat)) ∨ ((d : Rat) ≤ t ∧ t ≤ (c : Rat))) :
    ((c ≤ a ∧ a ≤ d) ∨ (d ≤ a ∧ a ≤ c)) ∨ ((c ≤ b ∧ b ≤ d) ∨ (d ≤ b ∧ b ≤ c)) ∨ ((a ≤ c ∧ c ≤ b) ∨ (b ≤ c ∧ c ≤ a)) ∨ ((a ≤ d ∧ d ≤ b) ∨ (b ≤ d ∧ d ≤ a)) := by
  have go : ∀ x y : Int, (x : Rat) ≤ t → t ≤ (y : Rat) → x ≤ y := fun x y hx hy => cast_le.1 (by grind)
  rcases h1 with ⟨p1, p2⟩ | ⟨p1, p2⟩ <;> rcases h2 with ⟨q1, q2⟩ | ⟨q1, q2⟩
  · have := go _ _ p1 q2; have := go _ _ q1 p2; omega
  · have := go _ _ p1 q2; have := go _ _ q1 p2; omega
  · have := go _ _ p1 q2; have := go _ _ q1 p2; omega
  · have := go _ _ p1 q2; have := go _ _ q1 p2; omega
theorem nc_apart {a b c d : Pt} (ha : May a) (hb : May b) (hc : May c) (hd : May d) (hab : a ≠ b) (hcd : c ≠ d) (h1 : a ≠ c) (h2 : a ≠ d) (h3 : b ≠ c) (h4 : b ≠ d) (hcls : cls a b c d = 0) {t : Rat}
    (s1 : Jor.spn (emb σ a) (emb σ b) t) (s2 : Jor.spn (emb σ c) (emb σ d) t) : Jor.xat (emb σ c) (emb σ d) t ≠ Jor.xat (emb σ a) (emb σ b) t := fun he => by
  have hA : (emb σ a).2 ≠ (emb σ b).2 := fun e => hab (Yl_inj hσ ha hb (cast_eq.1 e))
  have hC : (emb σ c).2 ≠ (emb σ d).2 := fun e => hcd (Yl_inj hσ hc hd (cast_eq.1 e))
  have e1 := no_same (on_both hA hC he) hC (spn_cast s2)
  have e2 := no_same (on_both hC hA he.symm) hA (spn_cast s1)
  have z : ∀ n : Int, ((0 : Rat) < (n : Rat) ↔ 0 < n) ∧ ((n : Rat) < 0 ↔ n < 0) := fun n => ⟨by exact_mod_cast Iff.rfl, by exact_mod_cast Iff.rfl⟩
  rw [(z _).1, (z _).1, (z _).2, (z _).2] at e1 e2
  have hno : nBo a b c d = 0 := by
    unfold nBo
    rcases ind_cases (a = c ∨ a = d) with q | q <;> rcases ind_cases (b = c ∨ b = d) with r | r <;> grind
  unfold cls at hcls
  rw [if_neg (by grind), hno] at hcls
  have hN : nOn a b c d = 0 ∧ (sg (crossZ a b c) = sg (crossZ a b d) ∨ sg (crossZ c d a) = sg (crossZ c d b)) := by
    have h0 : 0 ≤ nOn a b c d := by
      unfold nOn
      rcases ind_cases (On c d a) with q | q <;> rcases ind_cases (On c d b) with r | r <;> rcases ind_cases (On a b c) with u | u <;> rcases ind_cases (On a b d) with v | v <;> omega
    grind
  have hOn : ¬ On c d a ∧ ¬ On c d b ∧ ¬ On a b c ∧ ¬ On a b d := by
    have h0 := hN.1
    unfold nOn at h0
    rcases ind_cases (On c d a) with q | q <;> rcases ind_cases (On c d b) with r | r <;> rcases ind_cases (On a b c) with u | u <;> rcases ind_cases (On a b d) with v | v <;> first | (exact ⟨q.1, r.1, u.1, v.1⟩) | (exfalso; omega)
  have hall : (crossZ a b c = 0 ∧ crossZ a b d = 0) ∧ (crossZ c d a = 0 ∧ crossZ c d b = 0) := by
    have t1 := sg_cases (crossZ a b c)
    have t2 := sg_cases (crossZ a b d)
    have t3 := sg_cases (crossZ c d a)
    have t4 := sg_cases (crossZ c d b)
    rcases hN.2 with e | e
    · have hz : crossZ a b c = 0 ∧ crossZ a b d = 0 := by omega
      exact ⟨hz, col_sym hab hz.1 hz.2⟩
    · have hz : crossZ c d a = 0 ∧ crossZ c d b = 0 := by omega
      exact ⟨col_sym hcd hz.1 hz.2, hz⟩
  rcases overlap (spn_cast s1) (spn_cast s2) with o | o | o | o
  · exact hOn.1 (OnL hσ hc hd hcd hall.2.1 o)
  · exact hOn.2.1 (OnL hσ hc hd hcd hall.2.2 o)
  · exact hOn.2.2.1 (OnL hσ ha hb hab hall.1.1 o)
  · exact hOn.2.2.2 (OnL hσ ha hb hab hall.1.2 o)
theorem nc_touch {a b d : Pt} (ha : May a) (hb : May b) (hd : May d) (hab : a ≠ b) (hbd : b ≠ d) (had : a ≠ d) (hcls : cls a b b d = 1) {t : Rat}
    (s1 : Jor.spn (emb σ a) (emb σ b) t) (s2 : Jor.spn (emb σ b) (emb σ d) t) (he : Jor.xat (emb σ b) (emb σ d) t = Jor.xat (emb σ a) (emb σ b) t) : t = (Yl σ b : Rat) := by
  have hA : (emb σ a).2 ≠ (emb σ b).2 := fun e => hab (Yl_inj hσ ha hb (cast_eq.1 e))
  have hC : (emb σ b).2 ≠ (emb σ d).2 := fun e => hbd (Yl_inj hσ hb hd (cast_eq.1 e))
  have e1 := on_both hA hC he
  rw [crossZ_right] at e1
  by_cases hz : crossZ a b d = 0
  · have hno : nBo a b b d = 1 := by
      unfold nBo
      rcases ind_cases (a = b ∨ a = d) with q | q <;> rcases ind_cases (b = b ∨ b = d) with r | r <;> grind
    unfold cls at hcls
    rw [if_neg (by grind), hno] at hcls
    have hN : nOn a b b d = 2 := by grind
    have o1 := On_left b d
    have o2 := On_right a b
    have hOn : ¬ On b d a ∧ ¬ On a b d := by
      unfold nOn at hN
      rcases ind_cases (On b d a) with q | q <;> rcases ind_cases (On b d b) with r | r <;> rcases ind_cases (On a b b) with u | u <;> rcases ind_cases (On a b d) with v | v <;> first | (exact ⟨q.1, v.1⟩) | (exfalso; omega) | (exfalso; exact r.1 o1) | (exfalso; exact u.1 o2)
    have hz2 : crossZ b d a = 0 := by rw [crossZ_turn]; exact hz
    have f1 := spn_cast s1
    have f2 := spn_cast s2
    by_cases hlt : t < (Yl σ b : Rat)
    · exfalso
      have g1 : Yl σ a < Yl σ b := cast_lt.1 (by grind)
      have g2 : Yl σ d < Yl σ b := cast_lt.1 (by grind)
      by_cases hc : Yl σ a ≤ Yl σ d
      · exact hOn.2 (OnL hσ ha hb hab hz (by omega))
      · exact hOn.1 (OnL hσ hb hd hbd hz2 (by omega))
    · by_cases e : t = (Yl σ b : Rat)
      · exact e
      · exfalso
        have g1 : Yl σ b < Yl σ a := cast_lt.1 (by grind)
        have g2 : Yl σ b < Yl σ d := cast_lt.1 (by grind)
        by_cases hc : Yl σ a ≤ Yl σ d
        · exact hOn.1 (OnL hσ hb hd hbd hz2 (by omega))
        · exact hOn.2 (OnL hσ ha hb hab hz (by omega))
  · have hz' : ((crossZ a b d : Int) : Rat) ≠ 0 := by exact_mod_cast hz
    have : (t - (Yl σ b : Rat)) * ((crossZ a b d : Int) : Rat) = 0 := by
      have : ((0 : Int) : Rat) = 0 := rfl
      grind
    rcases Rat.mul_eq_zero.1 this with h | h
    · grind
    · exact (hz' h).elim
end
def pQ (σ : Int) (l : List Pt) (i : Nat) : Jor.Q2 := emb σ (pt l (i % l.length))
theorem Simple.ring {σ : Int} (hσ : σ = 1 ∨ σ = -1) {l : List Pt} (h : Simple l) : Jor.Ring l.length (pQ σ l) := by
  obtain ⟨⟨h3, hOk⟩, hD, hP⟩ := h
  have hn : 0 < l.length := by omega
  have hM : ∀ i, May (pt l (i % l.length)) := fun i => hOk _ (getD_mem (Nat.mod_lt _ hn))
  have hmod : ∀ i k, 0 < k → k < l.length → i % l.length ≠ (i + k) % l.length := fun i k h0 hk e => by
    have e1 := Nat.mod_add_div i l.length
    have e2 := Nat.mod_add_div (i + k) l.length
    rw [← e] at e2
    have e3 : l.length * ((i + k) / l.length) = l.length * (i / l.length) + k := by omega
    rcases Nat.lt_or_ge ((i + k) / l.length) (i / l.length + 1) with q | q
    · have := Nat.mul_le_mul_left l.length (show (i + k) / l.length ≤ i / l.length by omega)
      omega
    · have := Nat.mul_le_mul_left l.length q
      rw [Nat.mul_add] at this
      omega
  have hne : ∀ i k, 0 < k → k < l.length → pt l (i % l.length) ≠ pt l ((i + k) % l.length) := fun i k h0 hk => Dis_ne hD (Nat.mod_lt _ hn) (Nat.mod_lt _ hn) (hmod i k h0 hk)
  have hne1 : ∀ i, pt l (i % l.length) ≠ pt l ((i + 1) % l.length) := fun i => hne i 1 (by omega) (by omega)
  have hcl : ∀ i k, 0 < k → k < l.length → cls (pt l (i % l.length)) (pt l ((i + 1) % l.length)) (pt l ((i + k) % l.length)) (pt l ((i + k + 1) % l.length)) = if k = 1 ∨ k + 1 = l.length then 1 else 0 := fun i k h0 hk => by
    have eI : (i % l.length + 1) % l.length = (i + 1) % l.length := Nat.mod_add_mod i l.length 1
    have eK : ((i + k) % l.length + 1) % l.length = (i + k + 1) % l.length := Nat.mod_add_mod (i + k) l.length 1
    have hI := Nat.mod_lt i hn
    have hK := Nat.mod_lt (i + k) hn
    have hIK : (i + k) % l.length = i % l.length + k ∨ (i + k) % l.length + l.length = i % l.length + k := by
      rw [← Nat.mod_add_mod i l.length k]
      rcases Nat.lt_or_ge (i % l.length + k) l.length with q | q
      · left; exact Nat.mod_eq_of_lt q
      · right
        rw [Nat.mod_eq_sub_mod q, Nat.mod_eq_of_lt (by omega)]; omega
    rcases Nat.lt_or_ge (i % l.length) ((i + k) % l.length) with q | q
    · have := hP _ hK _ q
      unfold PrO clR at this
      rw [eI, eK] at this
      rw [this]
      by_cases hc : k = 1 ∨ k + 1 = l.length
      · rw [if_pos hc, if_pos (by unfold Adj; omega)]
      · rw [if_neg hc, if_neg (by unfold Adj; omega)]
    · have := hP _ hI _ (show (i + k) % l.length < i % l.length by have := hmod i k h0 hk; omega)
      unfold PrO clR at this
      rw [eI, eK] at this
      rw [cls_sym (hne1 (i + k)) (hne1 i), this]
      by_cases hc : k = 1 ∨ k + 1 = l.length
      · rw [if_pos hc, if_pos (by unfold Adj; omega)]
      · rw [if_neg hc, if_neg (by unfold Adj; omega)]
  refine ⟨h3, fun i => by unfold pQ; rw [Nat.add_mod_right], fun i k h0 hk e => hne i k h0 hk (Yl_inj hσ (hM _) (hM _) (cast_eq.1 e)), fun i k t h0 hk s1 s2 he => ?_⟩
  have hc := hcl i k h0 hk
  by_cases k1 : k = 1
  · subst k1
    left
    refine ⟨rfl, ?_⟩
    rw [if_pos (.inl rfl)] at hc
    exact nc_touch hσ (hM i) (hM (i + 1)) (hM (i + 1 + 1)) (hne1 i) (hne1 (i + 1)) (hne i 2 (by omega) (by omega)) hc s1 s2 he
  · by_cases k2 : k + 1 = l.length
    · right
      refine ⟨k2, ?_⟩
      rw [if_pos (.inr k2)] at hc
      have eP : (i + k + 1) % l.length = i % l.length := by rw [show i + k + 1 = i + l.length by omega, Nat.add_mod_right]
      have eQ : pQ σ l (i + k + 1) = pQ σ l i := by unfold pQ; rw [eP]
      rw [eP, cls_sym (by have := hne1 (i + k); rw [eP] at this; exact this) (hne1 i)] at hc
      rw [eQ] at s2 he
      have hd : pt l ((i + k) % l.length) ≠ pt l ((i + 1) % l.length) := fun e => by
        have := hne (i + 1) (k - 1) (by omega) (by omega)
        rw [show i + 1 + (k - 1) = i + k by omega] at this
        exact this e.symm
      exact nc_touch hσ (hM (i + k)) (hM i) (hM (i + 1)) (by have := hne1 (i + k); rw [eP] at this; exact this) (hne1 i) hd hc s2 s1 he.symm
    · rw [if_neg (by omega)] at hc
      refine (nc_apart hσ (hM i) (hM (i + 1)) (hM (i + k)) (hM (i + k + 1)) (hne1 i) (hne1 (i + k)) (hne i k h0 hk) (hne i (k + 1) (by omega) (by omega)) ?_ ?_ hc s1 s2 he).elim
      · have := hne (i + 1) (k - 1) (by omega) (by omega)
        rwa [show i + 1 + (k - 1) = i + k by omega] at this
      · have := hne (i + 1) k h0 hk
        rwa [show i + 1 + k = i + k + 1 by omega] at this
set_option maxRecDepth 4000
theorem sum_nat {X : Type} (f : X → Int) (d : X) : ∀ L : List X, sumZ (L.map f) = Jor.sumN (fun j => f (L.getD j d)) L.length
  | [] => rfl
  | x :: L => by
    rw [List.length_cons, Jor.sumN_front, List.map_cons]
    show f x + sumZ (L.map f) = _
    rw [sum_nat f d L]; rfl
theorem sum_edg (f : Pt × Pt → Int) (l : List Pt) : sumZ ((edg l).map f) = Jor.sumN (fun j => f (pt l (j % l.length), pt l ((j + 1) % l.length))) l.length := by
  rw [sum_nat f ((0, 0), (0, 0)), edg_len]
  refine Jor.sumN_congr fun j hj => ?_
  rw [edg_at hj, Nat.mod_eq_of_lt hj]; rfl
theorem sumQ_cast (f : Nat → Int) : ∀ n, Jor.sumQ (fun j => ((f j : Int) : Rat)) n = ((Jor.sumN f n : Int) : Rat)
  | 0 => rfl
  | n + 1 => by
    rw [Jor.sumQ, Jor.sumN, sumQ_cast f n]; push_cast; rfl
theorem area_cast (σ : Int) {l : List Pt} (hn : 0 < l.length) : Jor.area l.length (pQ σ l) = ((134217728 * shoe l : Int) : Rat) := by
  have e1 : Jor.area l.length (pQ σ l) = ((Jor.sumN (fun j => ((pt l (j % l.length)).1 + (pt l ((j + 1) % l.length)).1) * (Yl σ (pt l ((j + 1) % l.length)) - Yl σ (pt l (j % l.length)))) l.length : Int) : Rat) := by
    rw [← sumQ_cast]
    refine Jor.sumQ_congr fun j _ => ?_
    unfold Jor.area2 pQ emb
    push_cast; rfl
  rw [e1]
  congr 1
  have g : ∀ j, (fun j => 134217728 * ((pt l (j % l.length)).1 * (pt l (j % l.length)).2) - σ * ((pt l (j % l.length)).1 * (pt l (j % l.length)).1)) j = (fun p : Pt => 134217728 * (p.1 * p.2) - σ * (p.1 * p.1)) (pt l (j % l.length)) := fun _ => rfl
  have tel := Jor.sumN_tel (fun j => (fun p : Pt => 134217728 * (p.1 * p.2) - σ * (p.1 * p.1)) (pt l (j % l.length))) l.length
  rw [Nat.mod_self, Nat.zero_mod, Int.sub_self] at tel
  have e2 := Jor.sumN_sub (fun j => ((pt l (j % l.length)).1 + (pt l ((j + 1) % l.length)).1) * (Yl σ (pt l ((j + 1) % l.length)) - Yl σ (pt l (j % l.length)))) (fun j => 134217728 * ((pt l (j % l.length)).1 * (pt l ((j + 1) % l.length)).2 - (pt l ((j + 1) % l.length)).1 * (pt l (j % l.length)).2)) l.length
  have e3 := Jor.sumN_add (fun j => ((pt l (j % l.length)).1 + (pt l ((j + 1) % l.length)).1) * (Yl σ (pt l ((j + 1) % l.length)) - Yl σ (pt l (j % l.length))) - 134217728 * ((pt l (j % l.length)).1 * (pt l ((j + 1) % l.length)).2 - (pt l ((j + 1) % l.length)).1 * (pt l (j % l.length)).2)) (fun j => (fun p : Pt => 134217728 * (p.1 * p.2) - σ * (p.1 * p.1)) (pt l (j % l.length)) - (fun p : Pt => 134217728 * (p.1 * p.2) - σ * (p.1 * p.1)) (pt l ((j + 1) % l.length))) l.length
  rw [Jor.sumN_zero (fun j _ => by
    dsimp only
    generalize pt l (j % l.length) = a
    generalize pt l ((j + 1) % l.length) = b
    unfold Yl
    grind)] at e3
  have e4 : Jor.sumN (fun j => 134217728 * ((pt l (j % l.length)).1 * (pt l ((j + 1) % l.length)).2 - (pt l ((j + 1) % l.length)).1 * (pt l (j % l.length)).2)) l.length = 134217728 * shoe l := by
    unfold shoe
    rw [sum_edg]
    generalize l.length = m
    have : ∀ (f : Nat → Int) (n : Nat), Jor.sumN (fun j => 134217728 * f j) n = 134217728 * Jor.sumN f n := by
      intro f n
      induction n with
      | zero => rfl
      | succ n ih => rw [Jor.sumN, Jor.sumN, ih]; omega
    exact this (fun j => (pt l (j % m)).1 * (pt l ((j + 1) % m)).2 - (pt l ((j + 1) % m)).1 * (pt l (j % m)).2) m
  omega
theorem wZ_W {l : List Pt} (hk : Ok l) (hn : 0 < l.length) {p : Pt} (hp : May p) : wZ l p = Jor.W l.length (pQ 1 l) (p.1 : Rat) (Yl 1 p : Rat) := by
  unfold wZ Jor.W
  rw [sum_edg]
  refine Jor.sumN_congr fun j _ => ?_
  have h1 : May (pt l (j % l.length)) := hk _ (getD_mem (Nat.mod_lt _ hn))
  have h2 : May (pt l ((j + 1) % l.length)) := hk _ (getD_mem (Nat.mod_lt _ hn))
  unfold pQ
  rw [core (k := 1) (m := p) (.inl rfl) (.inl rfl) h1 h2 (by unfold MayK; unfold May at hp; omega) (by grind) (by grind)]
  generalize pt l (j % l.length) = a
  generalize pt l ((j + 1) % l.length) = b
  have e : sdK 1 p a b = crossZ a b p := by unfold sdK crossZ; grind
  unfold wnd cntK
  simp only [Lo_one, e]
  grind
end Go.Proofs.Ytopnbammdeimcaa.Pl
