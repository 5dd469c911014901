/-
  Chapter 22, plainly: the document's places on an edge. No program in sight.
-/
import Derived.Test.YthjcpojcpafbjaaP22h
namespace Go.Proofs.Ythjcpojcpafbjaa.Pl

theorem div_bound {m b B : Int} (hb : 0 < b) (hB : 0 ≤ B) (hm : -B ≤ m ∧ m ≤ B) : -B ≤ m / b ∧ m / b ≤ B := by
  have h1 : B * 1 ≤ B * b := Int.mul_le_mul_of_nonneg_left (by omega) hB
  refine ⟨?_, ?_⟩
  · rw [Int.le_ediv_iff_mul_le hb, Int.neg_mul]; omega
  · apply Int.ediv_le_of_le_mul hb; omega
theorem above_core {K R S w : Int} (hR : 0 ≤ R ∧ R < K) (hS : 0 ≤ S ∧ S < K) : 0 < K * w + R + S ↔ (0 < w ∨ w = 0 ∧ (0 < R ∨ 0 < S) ∨ w = -1 ∧ K < R + S) := by
  have hK : 0 < K := by omega
  rcases Int.lt_trichotomy w 0 with h | h | h
  · by_cases h1 : w = -1
    · subst h1
      rw [Int.mul_neg, Int.mul_one]; omega
    · have h2 : K * w ≤ K * (-2) := Int.mul_le_mul_of_nonneg_left (by omega) (by omega)
      omega
  · subst h
    rw [Int.mul_zero]; omega
  · have h2 : K * 1 ≤ K * w := Int.mul_le_mul_of_nonneg_left (by omega) (by omega)
    omega
theorem above_eq {x y a b c d : Int} (hx : -134217728 ≤ x ∧ x ≤ 134217728) (hy : W y) (ha : W a) (hb : 0 < b ∧ b ≤ 33554432) (hc : W c) (hd : 0 < d ∧ d ≤ 33554432) : ref22_above x y a b c d = some (decide (0 < x * (b * d) + y * (a * d + c * b))) := by
  unfold ref22_above
  have m1 := abs_mul (A := 33554432) (B := 33554432) hy ha
  have m2 := abs_mul (A := 33554432) (B := 33554432) hy hc
  have e1 : ml y a = y * a := ml_in (by omega)
  have e2 : ml y c = y * c := ml_in (by omega)
  rw [e1, e2]
  have v1 := Int.mul_ediv_add_emod (y * a) b
  have v2 := Int.mul_ediv_add_emod (y * c) d
  have r1 := Int.emod_nonneg (y * a) (show b ≠ 0 by omega)
  have r1' := Int.emod_lt_of_pos (y * a) hb.1
  have r2 := Int.emod_nonneg (y * c) (show d ≠ 0 by omega)
  have r2' := Int.emod_lt_of_pos (y * c) hd.1
  have q1 := div_bound (m := y * a) (B := 1125899906842624) hb.1 (by omega) (by omega)
  have q2 := div_bound (m := y * c) (B := 1125899906842624) hd.1 (by omega) (by omega)
  have key : x * (b * d) + y * (a * d + c * b) = (b * d) * (y * a / b + y * c / d + x) + (y * a % b) * d + (y * c % d) * b := by
    have g1 : y * (a * d + c * b) = (y * a) * d + (y * c) * b := by rw [Int.mul_add, Int.mul_assoc, Int.mul_assoc]
    have g2 : (y * a) * d = (b * (y * a / b)) * d + (y * a % b) * d := by rw [← Int.add_mul, v1]
    have g3 : (y * c) * b = (d * (y * c / d)) * b + (y * c % d) * b := by rw [← Int.add_mul, v2]
    have g4 : (b * (y * a / b)) * d = (b * d) * (y * a / b) := by rw [Int.mul_assoc, Int.mul_comm (y * a / b) d, ← Int.mul_assoc]
    have g5 : (d * (y * c / d)) * b = (b * d) * (y * c / d) := by rw [Int.mul_assoc, Int.mul_comm (y * c / d) b, ← Int.mul_assoc, Int.mul_comm d b]
    have g6 : x * (b * d) = (b * d) * x := Int.mul_comm _ _
    rw [g1, g2, g3, g4, g5, g6, Int.mul_add, Int.mul_add]
    omega
  rw [key]
  clear key
  generalize y * a / b = A at *
  generalize y * c / d = C at *
  generalize y * a % b = r at *
  generalize y * c % d = s at *
  generalize y * a = m at *
  generalize y * c = n at *
  have f1 : ref01_Floor m b = some (m / b) := Floor1_eq hb.1 (by omega) (by omega)
  have f2 : ref01_Floor n d = some (n / d) := Floor1_eq hd.1 (by omega) (by omega)
  have u1 := (Int.ediv_emod_unique (a := m) (r := r) (q := A) hb.1).2 ⟨by omega, r1, r1'⟩
  have u2 := (Int.ediv_emod_unique (a := n) (r := s) (q := C) hd.1).2 ⟨by omega, r2, r2'⟩
  rw [u1.1] at f1
  rw [u2.1] at f2
  have b1 : ml b A = b * A := ml_in (by omega)
  have b2 : ml d C = d * C := ml_in (by omega)
  have s1 : sb m (b * A) = r := by rw [sb_in (by omega)]; omega
  have s2' : sb n (d * C) = s := by rw [sb_in (by omega)]; omega
  have w1 : ad A C = A + C := ad_in (by omega)
  have w2 : ad (A + C) x = A + C + x := ad_in (by omega)
  have k1 := abs_mul (a := r) (b := d) (A := 33554432) (B := 33554432) (by omega) (by omega)
  have k2 := abs_mul (a := s) (b := b) (A := 33554432) (B := 33554432) (by omega) (by omega)
  have k3 := abs_mul (a := b) (b := d) (A := 33554432) (B := 33554432) (by omega) (by omega)
  have p1 : ml r d = r * d := ml_in (by omega)
  have p2 : ml s b = s * b := ml_in (by omega)
  have p3 : ml b d = b * d := ml_in (by omega)
  have p4 : ad (r * d) (s * b) = r * d + s * b := ad_in (by omega)
  simp only [f1, f2, bind_some', b1, b2, s1, s2', w1, w2, p1, p2, p3, p4]
  have hR : 0 ≤ r * d ∧ r * d < b * d := ⟨Int.mul_nonneg r1 (by omega), Int.mul_lt_mul_of_pos_right r1' hd.1⟩
  have hS : 0 ≤ s * b ∧ s * b < b * d := ⟨Int.mul_nonneg r2 (by omega), by rw [Int.mul_comm b d]; exact Int.mul_lt_mul_of_pos_right r2' hb.1⟩
  have hr : 0 < r * d ↔ 0 < r := ⟨fun h => by
    apply Classical.byContradiction
    intro h'
    have : r = 0 := by omega
    rw [this, Int.zero_mul] at h; omega, fun h => Int.mul_pos h hd.1⟩
  have hs : 0 < s * b ↔ 0 < s := ⟨fun h => by
    apply Classical.byContradiction
    intro h'
    have : s = 0 := by omega
    rw [this, Int.zero_mul] at h; omega, fun h => Int.mul_pos h hb.1⟩
  have core := above_core (w := A + C + x) hR hS
  rw [hr, hs] at core
  by_cases h1 : 0 < A + C + x
  · rw [decide_eq_true h1, decide_eq_true (core.2 (.inl h1))]; rfl
  · rw [decide_eq_false h1]
    simp only [Bool.false_eq_true, if_false]
    by_cases h2 : A + C + x = 0
    · rw [decide_eq_true h2]
      simp only [if_true]
      congr 1
      by_cases h3 : 0 < r ∨ 0 < s
      · rw [decide_eq_true (core.2 (.inr (.inl ⟨h2, h3⟩))), Bool.or_eq_true, decide_eq_true_eq, decide_eq_true_eq]; exact h3
      · have hneg : ¬ 0 < b * d * (A + C + x) + r * d + s * b := fun h => by have := core.1 h; omega
        rw [decide_eq_false hneg, Bool.or_eq_false_iff, decide_eq_false_iff_not, decide_eq_false_iff_not]
        omega
    · rw [decide_eq_false h2]
      simp only [Bool.false_eq_true, if_false]
      congr 1
      by_cases h3 : A + C + x = -1 ∧ b * d < r * d + s * b
      · rw [decide_eq_true (core.2 (.inr (.inr h3))), decide_eq_true h3.1, decide_eq_true h3.2]; rfl
      · have hneg : ¬ 0 < b * d * (A + C + x) + r * d + s * b := fun h => by have := core.1 h; omega
        rw [decide_eq_false hneg, Bool.and_eq_false_iff, decide_eq_false_iff_not, decide_eq_false_iff_not]
        omega
/-- At the middle of two places. -/
instance (x : Int × Int) (n d : Int) : Decidable (Cn x n d) := by unfold Cn; infer_instance
theorem strict_eq {p q a b c d low high : Int} (hp : -16777216 ≤ p ∧ p ≤ 16777216) (hq : -16777216 ≤ q ∧ q ≤ 16777216) (hl : -16777216 ≤ low ∧ low ≤ 16777216) (hh : -16777216 ≤ high ∧ high ≤ 16777216) (ha : W a) (hb : 0 < b ∧ b ≤ 33554432) (hc : W c) (hd : 0 < d ∧ d ≤ 33554432) :
    ref22_strict p q a b c d low high = some (decide (Cn (p - low, q - p) (a * d + c * b) (2 * (b * d)) ∧ Cn (high - p, p - q) (a * d + c * b) (2 * (b * d)))) := by
  unfold ref22_strict
  have e1 : sb p low = p - low := sb_in (by omega)
  have e2 : sb q p = q - p := sb_in (by omega)
  have e3 : sb high p = high - p := sb_in (by omega)
  have e4 : sb p q = p - q := sb_in (by omega)
  have e5 : ml 2 (p - low) = 2 * (p - low) := ml_in (by omega)
  have e6 : ml 2 (high - p) = 2 * (high - p) := ml_in (by omega)
  rw [e1, e2, e3, e4, e5, e6, above_eq (by omega) (show W (q - p) by unfold W; omega) ha hb hc hd, bind_some', above_eq (by omega) (show W (p - q) by unfold W; omega) ha hb hc hd]
  have g : ∀ f w : Int, (0 < 2 * f * (b * d) + w * (a * d + c * b)) ↔ Cn (f, w) (a * d + c * b) (2 * (b * d)) := fun f w => by
    unfold Cn
    rw [Int.mul_comm 2 f, Int.mul_assoc]
  have g1 := g (p - low) (q - p)
  have g2 := g (high - p) (p - q)
  by_cases h1 : Cn (p - low, q - p) (a * d + c * b) (2 * (b * d))
  · rw [decide_eq_true (g1.2 h1)]
    simp only [gd_true, bind_some', Bool.true_and]
    congr 1
    rw [decide_eq_decide, g2]
    exact ⟨fun h => ⟨h1, h⟩, fun h => h.2⟩
  · rw [decide_eq_false (fun h => h1 (g1.1 h)), decide_eq_false (show ¬ (Cn (p - low, q - p) (a * d + c * b) (2 * (b * d)) ∧ Cn (high - p, p - q) (a * d + c * b) (2 * (b * d))) from fun h => h1 h.1)]
    rfl
end Go.Proofs.Ythjcpojcpafbjaa.Pl
