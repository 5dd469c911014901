import Derived.Test.YtoccfdohlefifaaP18g
namespace Go.Proofs.Ytoccfdohlefifaa.Pl.G3
set_option maxRecDepth 4000
def sam (x y : Int) : Prop := (0 < x ∧ 0 < y) ∨ (x < 0 ∧ y < 0)
theorem opp_neg {x y : Int} : opp (-x) (-y) ↔ opp x y := by unfold opp; omega
theorem sam_neg {x y : Int} : sam (-x) (-y) ↔ sam x y := by unfold sam; omega
theorem tri_num {D a1 b1 g1 a2 b2 g2 sa sb sc : Int} (hD : 0 < D) (e1 : a1 + b1 + g1 = D) (e2 : a2 + b2 + g2 = D) (hb1 : 0 < b1) (hb2 : b2 < 0) (hs : 0 < sa) (hc : sc < 0)
    (i1 : a1 * sa + b1 * sb + g1 * sc = 0) (i2 : a2 * sa + b2 * sb + g2 * sc = 0) (hA : opp sb sc → sam a1 a2) (hG : opp sa sb → sam g1 g2) :
    (0 ≤ a1 ∧ 0 ≤ b1 ∧ 0 ≤ g1) ∨ (sb = 0 ∧ g1 * g2 ≤ 0) := by
  rcases Int.lt_trichotomy sb 0 with q | q | q
  · rcases hG (.inl ⟨hs, q⟩) with ⟨h1, h2⟩ | ⟨h1, h2⟩
    · have p1 := Int.mul_neg_of_pos_of_neg h1 hc
      have p2 := Int.mul_neg_of_pos_of_neg hb1 q
      left
      refine ⟨?_, by omega, by omega⟩
      rcases Int.lt_or_le a1 0 with r | r
      · have := Int.mul_neg_of_neg_of_pos r hs; omega
      · exact r
    · have p1 := Int.mul_pos (show 0 < a2 by omega) hs
      have p2 := Int.mul_pos_of_neg_of_neg hb2 q
      have p3 := Int.mul_pos_of_neg_of_neg h2 hc
      omega
  · subst q
    rw [Int.mul_zero] at i1 i2
    rcases Int.lt_or_le a1 0 with r | r
    · right
      refine ⟨rfl, ?_⟩
      have p1 := Int.mul_neg_of_neg_of_pos r hs
      have h1 : g1 < 0 := by
        rcases Int.lt_or_le g1 0 with t | t
        · exact t
        · have := Int.mul_nonpos_of_nonneg_of_nonpos t (Int.le_of_lt hc); omega
      have h2 : 0 ≤ g2 := by
        rcases Int.lt_or_le g2 0 with t | t
        · have := Int.mul_pos_of_neg_of_neg t hc
          have := Int.mul_pos (show 0 < a2 by omega) hs
          omega
        · exact t
      exact Int.mul_nonpos_of_nonpos_of_nonneg (Int.le_of_lt h1) h2
    · left
      have p1 := Int.mul_nonneg r (Int.le_of_lt hs)
      refine ⟨r, by omega, ?_⟩
      rcases Int.lt_or_le g1 0 with t | t
      · have := Int.mul_pos_of_neg_of_neg t hc; omega
      · exact t
  · rcases hA (.inl ⟨q, hc⟩) with ⟨h1, h2⟩ | ⟨h1, h2⟩
    · have p1 := Int.mul_pos h1 hs
      have p2 := Int.mul_pos hb1 q
      left
      refine ⟨by omega, by omega, ?_⟩
      rcases Int.lt_or_le g1 0 with t | t
      · have := Int.mul_pos_of_neg_of_neg t hc; omega
      · exact t
    · have p1 := Int.mul_neg_of_neg_of_pos h2 hs
      have p2 := Int.mul_neg_of_neg_of_pos hb2 q
      have p3 := Int.mul_neg_of_pos_of_neg (show 0 < g2 by omega) hc
      omega
theorem sam_sw {x y : Int} (h : sam x y) : sam y x := by unfold sam at *; omega
theorem tri_one {D a1 b1 g1 a2 b2 g2 sa sb sc : Int} (hD : 0 < D) (e1 : a1 + b1 + g1 = D) (e2 : a2 + b2 + g2 = D) (hb1 : 0 < b1) (hb2 : b2 < 0) (hs : opp sa sc)
    (i1 : a1 * sa + b1 * sb + g1 * sc = 0) (i2 : a2 * sa + b2 * sb + g2 * sc = 0) (hA : opp sb sc → sam a1 a2) (hG : opp sa sb → sam g1 g2) :
    (0 ≤ a1 ∧ 0 ≤ b1 ∧ 0 ≤ g1) ∨ (sb = 0 ∧ g1 * g2 ≤ 0) := by
  rcases hs with ⟨h1, h2⟩ | ⟨h1, h2⟩
  · exact tri_num hD e1 e2 hb1 hb2 h1 h2 i1 i2 hA hG
  · have := tri_num (sa := -sa) (sb := -sb) (sc := -sc) hD e1 e2 hb1 hb2 (by omega) (by omega) (by simp only [Int.mul_neg]; omega) (by simp only [Int.mul_neg]; omega) (fun h => hA (opp_neg.1 h)) (fun h => hG (opp_neg.1 h))
    exact this.imp id fun h => ⟨by omega, h.2⟩
def In3 (D a b g : Int) : Prop := (0 < D ∧ 0 ≤ a ∧ 0 ≤ b ∧ 0 ≤ g) ∨ (D < 0 ∧ a ≤ 0 ∧ b ≤ 0 ∧ g ≤ 0)
theorem tri_two {D a1 b1 g1 a2 b2 g2 sa sb sc : Int} (hD : 0 < D) (e1 : a1 + b1 + g1 = D) (e2 : a2 + b2 + g2 = D) (hb : opp b1 b2) (hs : opp sa sc)
    (i1 : a1 * sa + b1 * sb + g1 * sc = 0) (i2 : a2 * sa + b2 * sb + g2 * sc = 0) (hA : opp sb sc → sam a1 a2) (hG : opp sa sb → sam g1 g2) :
    In3 D a1 b1 g1 ∨ In3 D a2 b2 g2 ∨ (sb = 0 ∧ g1 * g2 ≤ 0) := by
  rcases hb with ⟨h1, h2⟩ | ⟨h1, h2⟩
  · rcases tri_one hD e1 e2 h1 h2 hs i1 i2 hA hG with h | h
    · exact .inl (.inl ⟨hD, h⟩)
    · exact .inr (.inr h)
  · rcases tri_one hD e2 e1 h2 h1 hs i2 i1 (fun h => sam_sw (hA h)) (fun h => sam_sw (hG h)) with h | h
    · exact .inr (.inl (.inl ⟨hD, h⟩))
    · exact .inr (.inr ⟨h.1, by rw [Int.mul_comm]; exact h.2⟩)
theorem tri_any {D a1 b1 g1 a2 b2 g2 sa sb sc : Int} (hD : D ≠ 0) (e1 : a1 + b1 + g1 = D) (e2 : a2 + b2 + g2 = D) (hb : opp b1 b2) (hs : opp sa sc)
    (i1 : a1 * sa + b1 * sb + g1 * sc = 0) (i2 : a2 * sa + b2 * sb + g2 * sc = 0) (hA : opp sb sc → sam a1 a2) (hG : opp sa sb → sam g1 g2) :
    In3 D a1 b1 g1 ∨ In3 D a2 b2 g2 ∨ (sb = 0 ∧ g1 * g2 ≤ 0) := by
  rcases Int.lt_or_gt_of_ne hD with h | h
  · have := tri_two (D := -D) (a1 := -a1) (b1 := -b1) (g1 := -g1) (a2 := -a2) (b2 := -b2) (g2 := -g2) (sa := sa) (sb := sb) (sc := sc) (by omega) (by omega) (by omega) (opp_neg.2 hb) hs (by simp only [Int.neg_mul]; omega) (by simp only [Int.neg_mul]; omega) (fun h => sam_neg.2 (hA h)) (fun h => sam_neg.2 (hG h))
    rw [Int.neg_mul_neg] at this
    unfold In3 at *
    omega
  · exact tri_two h e1 e2 hb hs i1 i2 hA hG
theorem tri_sum (a b c p : Pt) : crossZ b c p + crossZ c a p + crossZ a b p = crossZ a b c := by unfold crossZ; grind
theorem tri_s (a b c u v : Pt) : crossZ b c u * crossZ u v a + crossZ c a u * crossZ u v b + crossZ a b u * crossZ u v c = 0 := by unfold crossZ; grind
theorem tri_s2 (a b c u v : Pt) : crossZ b c v * crossZ u v a + crossZ c a v * crossZ u v b + crossZ a b v * crossZ u v c = 0 := by unfold crossZ; grind
theorem InT_of {a b c p : Pt} (h : In3 (crossZ a b c) (crossZ b c p) (crossZ c a p) (crossZ a b p)) : InT a b c p := by
  unfold InT
  unfold In3 at h
  rw [if_neg (by omega)]
  right
  have h1 := sg_cases (crossZ a b c)
  have h2 := sg_cases (crossZ b c p)
  have h3 := sg_cases (crossZ c a p)
  have h4 := sg_cases (crossZ a b p)
  refine ⟨by omega, by omega, by omega⟩
theorem On_InT {a b c p : Pt} (h : On a c p) : InT a b c p := by
  by_cases h0 : crossZ a b c = 0
  · unfold InT
    rw [if_pos h0]
    exact .inr (.inr ((On_swap a c p).2 h))
  · refine InT_of ?_
    have hs := tri_sum a b c p
    have hz : crossZ c a p = 0 := by rw [crossZ_swap, h.1]; rfl
    have r1 : crossZ p b a = -crossZ a b p := by unfold crossZ; grind
    have r2 : crossZ p b c = crossZ b c p := by unfold crossZ; grind
    have hac : a ≠ c := by
      rintro rfl
      have : crossZ a b a = 0 := crossZ_left _ _
      exact h0 this
    have := (on_nc (a := p) (b := b) hac (by rw [r1, r2]; omega)).1 h
    rw [r1, r2, Int.neg_mul] at this
    have h2 := this.2
    rw [hz]
    unfold In3
    generalize crossZ a b p = g at *
    generalize crossZ b c p = x at *
    rcases Int.lt_trichotomy g 0 with q | q | q <;> rcases Int.lt_trichotomy x 0 with t | t | t
    · omega
    · omega
    · have := Int.mul_neg_of_neg_of_pos q t; omega
    · omega
    · omega
    · omega
    · have := Int.mul_neg_of_pos_of_neg q t; omega
    · omega
    · omega
theorem opp_same {p q u v : Pt} (h : Ok4 p q u v) (hpq : p ≠ q) (ho : opp (crossZ u v p) (crossZ u v q)) : sam (crossZ p q u) (crossZ p q v) := by
  have hz := opp_nz ho
  have hm := opp_mul.1 ho
  have hn : ¬ (crossZ u v p = 0 ∧ crossZ u v q = 0) := fun h => hz.1 h.1
  have hn2 : ¬ (crossZ v u p = 0 ∧ crossZ v u q = 0) := by rw [crossZ_swap u v p, crossZ_swap u v q]; omega
  have z1 : crossZ p q u ≠ 0 := fun h0 => by
    rcases h.o3 ((on_nc hpq hn).2 ⟨h0, by omega⟩) with rfl | rfl
    · exact hz.1 (crossZ_left _ _)
    · exact hz.2 (crossZ_left _ _)
  have z2 : crossZ p q v ≠ 0 := fun h0 => by
    rcases h.o4 ((on_nc hpq hn2).2 ⟨h0, by rw [crossZ_swap u v p, crossZ_swap u v q, Int.neg_mul_neg]; omega⟩) with rfl | rfl
    · exact hz.1 (crossZ_right _ _)
    · exact hz.2 (crossZ_right _ _)
  have hp : ¬ opp (crossZ p q u) (crossZ p q v) := fun h' => h.pr ⟨h', ho⟩
  unfold sam
  unfold opp at hp
  omega
theorem on_b {a b u v : Pt} (hab : a ≠ b) (huv : u ≠ v) (hs : crossZ u v b = 0) (ha : crossZ u v a ≠ 0) (hg : crossZ a b u * crossZ a b v ≤ 0) : On u v b := by
  refine (on_nc (a := b) (b := a) huv ?_).2 ⟨hs, ?_⟩
  · intro h
    exact ha (col_sym (c := b) (d := a) hab.symm h.1 h.2).2
  · rw [crossZ_swap a b u, crossZ_swap a b v, Int.neg_mul_neg]; omega
theorem keep {a b c u v : Pt} (hab : a ≠ b) (hbc : b ≠ c) (hac : a ≠ c) (huv : u ≠ v) (hub : u ≠ b) (hvb : v ≠ b) (hns : ¬ ((a = u ∧ c = v) ∨ (a = v ∧ c = u)))
    (hu : InT a b c u → u = a ∨ u = c) (hv : InT a b c v → v = a ∨ v = c) (h1 : Ok4 a b u v) (h2 : Ok4 b c u v) : Ok4 a c u v := by
  refine ⟨hns, h1.o1, h2.o2, fun h => hu (On_InT h), fun h => hv (On_InT h), ?_⟩
  rintro ⟨hb, hs⟩
  have hz := opp_nz hs
  have hno : ∀ g : crossZ a b u * crossZ a b v ≤ 0, crossZ u v b = 0 → False := fun g h0 => by
    rcases h1.o2 (on_b hab huv h0 hz.1 g) with h | h
    · exact hub h.symm
    · exact hvb h.symm
  by_cases hD : crossZ a b c = 0
  · have hg : ∃ x y : Int, x ≠ 0 ∧ crossZ a b u * x = crossZ a c u * y ∧ crossZ a b v * x = crossZ a c v * y ∧ ∃ z : Int, crossZ b c u * x = crossZ a c u * z ∧ crossZ b c v * x = crossZ a c v * z := by
      rcases ne_way hac with h | h
      · exact ⟨c.1 - a.1, b.1 - a.1, h, by unfold crossZ at *; grind, by unfold crossZ at *; grind, c.1 - b.1, by unfold crossZ at *; grind, by unfold crossZ at *; grind⟩
      · exact ⟨c.2 - a.2, b.2 - a.2, h, by unfold crossZ at *; grind, by unfold crossZ at *; grind, c.2 - b.2, by unfold crossZ at *; grind, by unfold crossZ at *; grind⟩
    obtain ⟨x, y, hx, g1, g2, z, g3, g4⟩ := hg
    have hm := opp_mul.1 hb
    have hxx := sq_pos hx
    have key : ∀ (p q y : Int), p * x = crossZ a c u * y → q * x = crossZ a c v * y → p * q ≤ 0 := by
      intro p q y e1 e2
      have e : (p * q) * (x * x) = (crossZ a c u * crossZ a c v) * (y * y) := by grind
      rcases Int.lt_or_le 0 (p * q) with h | h
      · have h3 := Int.mul_pos h hxx
        have h4 := Int.mul_nonneg (show 0 ≤ -(crossZ a c u * crossZ a c v) by omega) (sq_nonneg y)
        rw [Int.neg_mul] at h4
        omega
      · exact h
    have k1 := key _ _ y g1 g2
    have k2 := key _ _ z g3 g4
    have hsam : ∀ {x y : Int}, sam x y → 0 < x * y := by
      rintro x y (⟨h1, h2⟩ | ⟨h1, h2⟩)
      · exact Int.mul_pos h1 h2
      · exact Int.mul_pos_of_neg_of_neg h1 h2
    rcases Int.lt_trichotomy (crossZ u v b) 0 with q | q | q
    · by_cases h : 0 < crossZ u v a
      · have := hsam (opp_same h1 hab (.inl ⟨h, q⟩)); omega
      · have hc : 0 < crossZ u v c := by unfold opp at hs; omega
        have := hsam (opp_same h2 hbc (.inr ⟨q, hc⟩)); omega
    · exact hno k1 q
    · by_cases h : crossZ u v a < 0
      · have := hsam (opp_same h1 hab (.inr ⟨h, q⟩)); omega
      · have hc : crossZ u v c < 0 := by unfold opp at hs; omega
        have := hsam (opp_same h2 hbc (.inl ⟨q, hc⟩)); omega
  · have hb' : opp (crossZ c a u) (crossZ c a v) := by rw [crossZ_swap a c u, crossZ_swap a c v, opp_neg]; exact hb
    rcases tri_any hD (tri_sum a b c u) (tri_sum a b c v) hb' hs (tri_s a b c u v) (tri_s2 a b c u v) (fun h => opp_same h2 hbc h) (fun h => opp_same h1 hab h) with h | h | ⟨h, h'⟩
    · rcases hu (InT_of h) with rfl | rfl
      · exact hz.1 (crossZ_left _ _)
      · exact hz.2 (crossZ_left _ _)
    · rcases hv (InT_of h) with rfl | rfl
      · exact hz.1 (crossZ_right _ _)
      · exact hz.2 (crossZ_right _ _)
    · exact hno h' h
end Go.Proofs.Ytoccfdohlefifaa.Pl.G3
