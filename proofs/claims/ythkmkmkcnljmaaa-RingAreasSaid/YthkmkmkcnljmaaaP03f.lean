/-
  Two segments on one line; the program's class whole. No program in sight.
-/
import Derived.Test.YthkmkmkcnljmaaaP03e
namespace Go.Proofs.Ythkmkmkcnljmaaa.Pl

theorem btw_back {L d x y : Int} (hL : 0 < L) (hx : L * x = d * y) (h0 : 0 ≤ d) (h1 : d ≤ L) : btw y x := by
  have hm := between_mul (u := y) h0 h1
  rw [← hx] at hm
  rcases Int.le_total 0 y with hy | hy
  · left
    obtain ⟨a, b⟩ := hm.1 hy
    exact ⟨Int.nonneg_of_mul_nonneg_right a hL, Int.le_of_mul_le_mul_left b hL⟩
  · right
    obtain ⟨a, b⟩ := hm.2 hy
    have b' : L * x ≤ L * 0 := by rw [Int.mul_zero]; exact b
    exact ⟨Int.le_of_mul_le_mul_left a hL, Int.le_of_mul_le_mul_left b' hL⟩
theorem lex_btw {u1 u2 v1 v2 : Int} (h : u1 * v2 - u2 * v1 = 0) (hu : u1 ≠ 0 ∨ u2 ≠ 0) (b1 : -33554432 ≤ u2 ∧ u2 ≤ 33554432) (b2 : -33554432 ≤ v2 ∧ v2 ≤ 33554432) (b3 : -33554432 ≤ u2 - v2 ∧ u2 - v2 ≤ 33554432) :
    (btw u1 v1 ∧ btw u2 v2) ↔ btw (u1 * 67108864 + u2) (v1 * 67108864 + v2) := by
  have key : ∀ u1 u2 v1 v2 : Int, u1 * v2 - u2 * v1 = 0 → (0 < u1 ∨ (u1 = 0 ∧ 0 < u2)) → (-33554432 ≤ u2 ∧ u2 ≤ 33554432) → (-33554432 ≤ v2 ∧ v2 ≤ 33554432) → (-33554432 ≤ u2 - v2 ∧ u2 - v2 ≤ 33554432) → ((btw u1 v1 ∧ btw u2 v2) ↔ btw (u1 * 67108864 + u2) (v1 * 67108864 + v2)) := by
    intro u1 u2 v1 v2 h hu b1 b2 b3
    rcases hu with hu | ⟨hu, hu2⟩
    · constructor
      · rintro ⟨h1, h2⟩
        have h1' : 0 ≤ v1 ∧ v1 ≤ u1 := by unfold btw at h1; omega
        unfold btw
        by_cases q1 : v1 = 0
        · have : v2 = 0 := by
            rw [q1, Int.mul_zero] at h
            rcases Int.mul_eq_zero.1 (show u1 * v2 = 0 by omega) with h' | h' <;> omega
          omega
        · by_cases q2 : v1 = u1
          · have : v2 = u2 := by
              rw [q2] at h
              have e : u1 * (v2 - u2) = 0 := by rw [Int.mul_sub, Int.mul_comm u1 u2]; omega
              rcases Int.mul_eq_zero.1 e with h' | h' <;> omega
            omega
          · omega
      · intro h1
        have h1' : 0 ≤ v1 ∧ v1 ≤ u1 := by unfold btw at h1; omega
        refine ⟨.inl h1', btw_back hu (show u1 * v2 = v1 * u2 by rw [Int.mul_comm v1 u2]; omega) h1'.1 h1'.2⟩
    · have hv : v1 = 0 := by
        rw [hu, Int.zero_mul] at h
        rcases Int.mul_eq_zero.1 (show u2 * v1 = 0 by omega) with h' | h' <;> omega
      subst hv
      subst hu
      unfold btw
      omega
  by_cases hp : 0 < u1 ∨ (u1 = 0 ∧ 0 < u2)
  · exact key u1 u2 v1 v2 h hp b1 b2 b3
  · have := key (-u1) (-u2) (-v1) (-v2) (by rw [Int.neg_mul_neg, Int.neg_mul_neg]; exact h) (by omega) (by omega) (by omega) (by omega)
    unfold btw at this ⊢
    omega
def kp (p : Pt) : Int := p.1 * 67108864 + p.2
theorem kp_inj {a b : Pt} (ha : May a) (hb : May b) : a = b ↔ kp a = kp b := by
  unfold May at ha hb
  unfold kp
  constructor
  · rintro rfl; rfl
  · intro h; exact pt_ext (by omega) (by omega)
theorem Less_kp {a b : Pt} (ha : May a) (hb : May b) : exact_Less a b = some (decide (kp a < kp b)) := by
  rw [Less_eq]
  congr 1
  rw [Bool.eq_iff_iff]
  simp only [decide_eq_true_eq]
  unfold May at ha hb
  unfold kp
  omega
theorem on_kp {c d a : Pt} (hc : May c) (hd : May d) (ha : May a) (hcd : c ≠ d) (h : crossZ c d a = 0) : On c d a ↔ (kp c ≤ kp a ∧ kp a ≤ kp d) ∨ (kp d ≤ kp a ∧ kp a ≤ kp c) := by
  rw [On_btw]
  unfold May at ha hc hd
  have := lex_btw (u1 := d.1 - c.1) (u2 := d.2 - c.2) (v1 := a.1 - c.1) (v2 := a.2 - c.2) h (ne_way hcd) (by omega) (by omega) (by omega)
  rw [this]
  unfold kp btw
  constructor
  · rintro ⟨_, h⟩; omega
  · intro h'; exact ⟨h, by omega⟩
theorem seg_line_k2_eq {a b c d : Pt} (ha : May a) (hb : May b) (hc : May c) (hd : May d) : seg_line_k2 a b c d = some (if kp b < kp c ∨ kp d < kp a then 0 else if kp b = kp c ∨ kp d = kp a then 1 else 4) := by
  unfold seg_line_k2
  rw [Less_kp hb hc, Less_kp hd ha]
  simp only [bind_some']
  have h1 : decide (b = c) = decide (kp b = kp c) := by rw [Bool.eq_iff_iff]; simp only [decide_eq_true_eq]; exact kp_inj hb hc
  have h2 : decide (d = a) = decide (kp d = kp a) := by rw [Bool.eq_iff_iff]; simp only [decide_eq_true_eq]; exact kp_inj hd ha
  rw [h1, h2]
  by_cases q1 : kp b < kp c <;> by_cases q2 : kp d < kp a <;> by_cases q3 : kp b = kp c <;> by_cases q4 : kp d = kp a <;> simp [q1, q2, q3, q4]
theorem seg_line_eq {a b c d : Pt} (ha : May a) (hb : May b) (hc : May c) (hd : May d) : seg_line a b c d =
    some (if max (kp a) (kp b) < min (kp c) (kp d) ∨ max (kp c) (kp d) < min (kp a) (kp b) then 0 else if max (kp a) (kp b) = min (kp c) (kp d) ∨ max (kp c) (kp d) = min (kp a) (kp b) then 1 else 4) := by
  unfold seg_line seg_line_k1
  rw [Less_kp hb ha, Less_kp hd hc]
  simp only [bind_some', decide_eq_true_eq]
  rw [seg_line_k2_eq hb ha hd hc, seg_line_k2_eq hb ha hc hd, seg_line_k2_eq ha hb hd hc, seg_line_k2_eq ha hb hc hd]
  by_cases q1 : kp b < kp a <;> by_cases q2 : kp d < kp c
  · rw [if_pos q1, if_pos q2, show max (kp a) (kp b) = kp a by omega, show max (kp c) (kp d) = kp c by omega, show min (kp a) (kp b) = kp b by omega, show min (kp c) (kp d) = kp d by omega]
  · rw [if_pos q1, if_neg q2, show max (kp a) (kp b) = kp a by omega, show max (kp c) (kp d) = kp d by omega, show min (kp a) (kp b) = kp b by omega, show min (kp c) (kp d) = kp c by omega]
  · rw [if_neg q1, if_pos q2, show max (kp a) (kp b) = kp b by omega, show max (kp c) (kp d) = kp c by omega, show min (kp a) (kp b) = kp a by omega, show min (kp c) (kp d) = kp d by omega]
  · rw [if_neg q1, if_neg q2, show max (kp a) (kp b) = kp b by omega, show max (kp c) (kp d) = kp d by omega, show min (kp a) (kp b) = kp a by omega, show min (kp c) (kp d) = kp c by omega]
theorem cls_col {a b c d : Pt} (ha : May a) (hb : May b) (hc : May c) (hd : May d) (hab : a ≠ b) (hcd : c ≠ d) (h5 : ¬ ((a = c ∧ b = d) ∨ (a = d ∧ b = c))) (h1 : crossZ a b c = 0) (h2 : crossZ a b d = 0) :
    cls a b c d = if max (kp a) (kp b) < min (kp c) (kp d) ∨ max (kp c) (kp d) < min (kp a) (kp b) then 0 else if max (kp a) (kp b) = min (kp c) (kp d) ∨ max (kp c) (kp d) = min (kp a) (kp b) then 1 else 4 := by
  have h3 := col_sym hab h1 h2
  have o1 := on_kp hc hd ha hcd h3.1
  have o2 := on_kp hc hd hb hcd h3.2
  have o3 := on_kp ha hb hc hab h1
  have o4 := on_kp ha hb hd hab h2
  have i1 := ind_cases (On c d a)
  have i2 := ind_cases (On c d b)
  have i3 := ind_cases (On a b c)
  have i4 := ind_cases (On a b d)
  have j1 := ind_cases (a = c ∨ a = d)
  have j2 := ind_cases (b = c ∨ b = d)
  have k1 := kp_inj ha hc
  have k2 := kp_inj ha hd
  have k3 := kp_inj hb hc
  have k4 := kp_inj hb hd
  have k5 : ¬ kp a = kp b := fun h => hab ((kp_inj ha hb).2 h)
  have k6 : ¬ kp c = kp d := fun h => hcd ((kp_inj hc hd).2 h)
  have h5' : ¬ ((kp a = kp c ∧ kp b = kp d) ∨ (kp a = kp d ∧ kp b = kp c)) := by rw [← k1, ← k2, ← k3, ← k4]; exact h5
  unfold cls
  rw [if_neg h5, h1, h2, h3.1, h3.2]
  simp only [not_true, false_and, if_false]
  unfold nOn nBo
  generalize ind (On c d a) = x1 at *
  generalize ind (On c d b) = x2 at *
  generalize ind (On a b c) = x3 at *
  generalize ind (On a b d) = x4 at *
  generalize ind (a = c ∨ a = d) = x5 at *
  generalize ind (b = c ∨ b = d) = x6 at *
  rw [o1] at i1
  rw [o2] at i2
  rw [o3] at i3
  rw [o4] at i4
  rw [k1, k2] at j1
  rw [k3, k4] at j2
  generalize kp a = A at *
  generalize kp b = B at *
  generalize kp c = C at *
  generalize kp d = D at *
  clear o1 o2 o3 o4 k1 k2 k3 k4 h5 h1 h2 h3 ha hb hc hd hab hcd
  by_cases q1 : max A B < min C D ∨ max C D < min A B
  · have : x1 + x2 + (x3 + x4) - (x5 + x6) = 0 := by omega
    rw [if_pos q1, if_neg (by omega), if_neg (by omega)]
  · rw [if_neg q1]
    by_cases q2 : max A B = min C D ∨ max C D = min A B
    · have : x1 + x2 + (x3 + x4) - (x5 + x6) = 1 := by omega
      have : x5 + x6 = 1 := by omega
      rw [if_pos q2, if_neg (by omega), if_pos (by omega), if_pos (by omega)]
    · have : 1 < x1 + x2 + (x3 + x4) - (x5 + x6) := by omega
      rw [if_neg q2, if_pos (by omega)]
theorem seg_Class_eq {a b c d : Pt} (ha : May a) (hb : May b) (hc : May c) (hd : May d) (hab : a ≠ b) (hcd : c ≠ d) : seg_Class a b c d = some (if cls a b c d = 5 then (5, 0) else (cls a b c d, 0)) := by
  have e5 : (if cls a b c d = 5 then ((5 : Int), (0 : Int)) else (cls a b c d, 0)) = (cls a b c d, 0) := by
    split
    · rename_i h; rw [h]
    · rfl
  rw [e5]
  unfold seg_Class
  rw [Right_true (by simp) (by simp [ha, hb, hc, hd])]
  simp only [bind_some', Bool.not_true, Bool.false_eq_true, if_false, decide_eq_false hab, decide_eq_false hcd, Bool.or_false]
  have e3 : (decide (a = c) && decide (b = d) || decide (a = d) && decide (b = c)) = decide ((a = c ∧ b = d) ∨ (a = d ∧ b = c)) := by
    rw [Bool.eq_iff_iff]; simp
  rw [e3]
  by_cases h5 : (a = c ∧ b = d) ∨ (a = d ∧ b = c)
  · rw [decide_eq_true h5, if_pos rfl]
    unfold cls
    rw [if_pos h5]
  rw [decide_eq_false h5, if_neg Bool.false_ne_true, Turn_eq ha hb hc, Turn_eq ha hb hd, Turn_eq hc hd ha, Turn_eq hc hd hb]
  simp only [bind_some']
  have e4 : (decide (sg (crossZ a b c) = 0) && decide (sg (crossZ a b d) = 0)) = decide (crossZ a b c = 0 ∧ crossZ a b d = 0) := by
    rw [Bool.eq_iff_iff]; simp only [Bool.and_eq_true, decide_eq_true_eq, ← sg_zero_iff]
  rw [e4]
  by_cases hn : crossZ a b c = 0 ∧ crossZ a b d = 0
  · rw [decide_eq_true hn, if_pos rfl, seg_line_eq ha hb hc hd, bind_some', cls_col ha hb hc hd hab hcd h5 hn.1 hn.2]
  · rw [decide_eq_false hn, if_neg Bool.false_ne_true, cls_nc hab hcd h5 hn]
    have s : ∀ n, sg n = 1 ∨ sg n = 0 ∨ sg n = -1 := fun n => by rcases sg_cases n with h | h | h <;> omega
    exact seg_nc (s _) (s _) (s _) (s _) (by rw [← sg_zero_iff, ← sg_zero_iff]; exact hn) (by rw [← sg_zero_iff, ← sg_zero_iff]; exact fun h => hn (col_sym hcd h.1 h.2))
end Go.Proofs.Ythkmkmkcnljmaaa.Pl
