import Derived.Test.YtoccfdohlefifaaP18s
namespace Go.Proofs.Ytoccfdohlefifaa.Pl.G3
set_option maxRecDepth 4000
theorem sq_nonneg (u : Int) : 0 ≤ u * u := by
  rcases Int.le_total 0 u with h | h
  · exact Int.mul_nonneg h h
  · have := Int.mul_nonneg (show 0 ≤ -u by omega) (show 0 ≤ -u by omega)
    rwa [Int.neg_mul_neg] at this
theorem sq_pos {u : Int} (h : u ≠ 0) : 0 < u * u := by
  rcases Int.lt_or_gt_of_ne h with h | h
  · have := Int.mul_pos (show 0 < -u by omega) (show 0 < -u by omega)
    rwa [Int.neg_mul_neg] at this
  · exact Int.mul_pos h h
theorem long_pos {u1 u2 : Int} (h : u1 ≠ 0 ∨ u2 ≠ 0) : 0 < u1 * u1 + u2 * u2 := by
  have h1 := sq_nonneg u1
  have h2 := sq_nonneg u2
  rcases h with h | h
  · have := sq_pos h; omega
  · have := sq_pos h; omega
def btw (u v : Int) : Prop := (0 ≤ v ∧ v ≤ u) ∨ (u ≤ v ∧ v ≤ 0)
theorem between_of_mul {d L u : Int} (hu : 0 < u) (h0 : 0 ≤ d * u) (h1 : d * u ≤ L * u) : 0 ≤ d ∧ d ≤ L :=
  ⟨Int.nonneg_of_mul_nonneg_left h0 hu, Int.le_of_mul_le_mul_right h1 hu⟩
theorem between_mul {d L u : Int} (h0 : 0 ≤ d) (hL : d ≤ L) : (0 ≤ u → 0 ≤ d * u ∧ d * u ≤ L * u) ∧ (u ≤ 0 → L * u ≤ d * u ∧ d * u ≤ 0) := by
  constructor
  · intro hu
    exact ⟨Int.mul_nonneg h0 hu, Int.mul_le_mul_of_nonneg_right hL hu⟩
  · intro hu
    have h1 := Int.mul_nonneg h0 (show 0 ≤ -u by omega)
    have h2 := Int.mul_le_mul_of_nonneg_right hL (show 0 ≤ -u by omega)
    rw [Int.mul_neg] at h1 h2
    rw [Int.mul_neg] at h2
    omega
theorem btw_iff {u1 u2 v1 v2 : Int} (hu : u1 ≠ 0 ∨ u2 ≠ 0) (h : u1 * v2 - u2 * v1 = 0) :
    (btw u1 v1 ∧ btw u2 v2) ↔ (0 ≤ v1 * u1 + v2 * u2 ∧ v1 * u1 + v2 * u2 ≤ u1 * u1 + u2 * u2) := by
  have hc : (u1 * u1 + u2 * u2) * v1 = (v1 * u1 + v2 * u2) * u1 ∧ (u1 * u1 + u2 * u2) * v2 = (v1 * u1 + v2 * u2) * u2 := by constructor <;> grind
  have hL := long_pos hu
  generalize hd : v1 * u1 + v2 * u2 = d at *
  generalize hl : u1 * u1 + u2 * u2 = L at *
  have pos_of {x y : Int} (hx : L * x = d * y) (hb : btw y x) (hy : y ≠ 0) : 0 ≤ d ∧ d ≤ L := by
    rcases Int.lt_or_gt_of_ne hy with hn | hp
    · have hb' : y ≤ x ∧ x ≤ 0 := by unfold btw at hb; omega
      have h1 := Int.mul_nonneg (show 0 ≤ L by omega) (show 0 ≤ -x by omega)
      have h2 := Int.mul_nonneg (show 0 ≤ L by omega) (show 0 ≤ x - y by omega)
      rw [Int.mul_neg, hx] at h1
      rw [Int.mul_sub, hx] at h2
      refine between_of_mul (u := -y) (by omega) ?_ ?_
      · rw [Int.mul_neg]; exact h1
      · rw [Int.mul_neg, Int.mul_neg]; omega
    · have hb' : 0 ≤ x ∧ x ≤ y := by unfold btw at hb; omega
      have h1 := Int.mul_nonneg (show 0 ≤ L by omega) (show 0 ≤ x by omega)
      have h2 := Int.mul_nonneg (show 0 ≤ L by omega) (show 0 ≤ y - x by omega)
      rw [hx] at h1
      rw [Int.mul_sub, hx] at h2
      exact between_of_mul hp h1 (by omega)
  have back {x y : Int} (hx : L * x = d * y) (h0 : 0 ≤ d) (h1 : d ≤ L) : btw y x := by
    have hm := between_mul (u := y) h0 h1
    rw [← hx] at hm
    rcases Int.le_total 0 y with hy | hy
    · left
      obtain ⟨a, b⟩ := hm.1 hy
      exact ⟨Int.nonneg_of_mul_nonneg_right a hL, Int.le_of_mul_le_mul_left b hL⟩
    · right
      obtain ⟨a, b⟩ := hm.2 hy
      have b' : L * x ≤ L * 0 := by rw [Int.mul_zero]; exact b
      exact ⟨Int.le_of_mul_le_mul_left a hL, Int.le_of_mul_le_mul_left b' hL⟩
  constructor
  · rintro ⟨b1, b2⟩
    rcases hu with h | h
    · exact pos_of hc.1 b1 h
    · exact pos_of hc.2 b2 h
  · rintro ⟨h0, h1⟩
    exact ⟨back hc.1 h0 h1, back hc.2 h0 h1⟩
theorem On_btw (a b p : Pt) : On a b p ↔ crossZ a b p = 0 ∧ btw (b.1 - a.1) (p.1 - a.1) ∧ btw (b.2 - a.2) (p.2 - a.2) := by
  unfold On btw
  omega
theorem pt_ext {a b : Pt} (h1 : a.1 = b.1) (h2 : a.2 = b.2) : a = b := Prod.ext h1 h2
theorem crossZ_left (a b : Pt) : crossZ a b a = 0 := by unfold crossZ; grind
theorem crossZ_right (a b : Pt) : crossZ a b b = 0 := by unfold crossZ; grind
theorem crossZ_swap (a b c : Pt) : crossZ b a c = - crossZ a b c := by unfold crossZ; grind
theorem crossZ_turn (a b c : Pt) : crossZ b c a = crossZ a b c := by unfold crossZ; grind
theorem On_left (a b : Pt) : On a b a := by rw [On_btw]; refine ⟨crossZ_left a b, ?_, ?_⟩ <;> unfold btw <;> omega
theorem On_right (a b : Pt) : On a b b := by rw [On_btw]; refine ⟨crossZ_right a b, ?_, ?_⟩ <;> unfold btw <;> omega
theorem prod_neg {u v x y : Int} (h : v * y + (u - v) * x = 0) (hb : btw u v) (hu : u ≠ 0) : ¬ 0 < x * y := by
  intro hxy
  have key : ∀ u v x y : Int, 0 ≤ v → v ≤ u → u ≠ 0 → 0 < x → 0 < y → v * y + (u - v) * x ≠ 0 := by
    intro u v x y h1 h2 h3 h4 h5
    have a1 := Int.mul_nonneg h1 (Int.le_of_lt h5)
    have a2 := Int.mul_nonneg (show 0 ≤ u - v by omega) (Int.le_of_lt h4)
    rcases Int.lt_or_eq_of_le h1 with h | h
    · have := Int.mul_pos h h5; omega
    · have := Int.mul_pos (show 0 < u - v by omega) h4; omega
  have hs : (0 < x ∧ 0 < y) ∨ (x < 0 ∧ y < 0) := by
    rcases Int.lt_trichotomy x 0 with hx | hx | hx
    · right; refine ⟨hx, ?_⟩
      have := Int.neg_mul_neg x y
      rcases Int.lt_or_le y 0 with hy | hy
      · exact hy
      · have := Int.mul_nonneg (show 0 ≤ -x by omega) hy
        rw [Int.neg_mul] at this; omega
    · rw [hx, Int.zero_mul] at hxy; omega
    · left; refine ⟨hx, ?_⟩
      rcases Int.lt_or_le 0 y with hy | hy
      · exact hy
      · have := Int.mul_nonneg (Int.le_of_lt hx) (show 0 ≤ -y by omega)
        rw [Int.mul_neg] at this; omega
  rcases hb with hb | hb <;> rcases hs with hs | hs
  · exact key u v x y hb.1 hb.2 hu hs.1 hs.2 h
  · exact key u v (-x) (-y) hb.1 hb.2 hu (by omega) (by omega) (by rw [Int.mul_neg, Int.mul_neg]; omega)
  · exact key (-u) (-v) x y (by omega) (by omega) (by omega) hs.1 hs.2 (by grind)
  · exact key (-u) (-v) (-x) (-y) (by omega) (by omega) (by omega) (by omega) (by omega) (by grind)
theorem btw_opp {u v x y : Int} (h : v * y + (u - v) * x = 0) (hxy : (0 < x ∧ y < 0) ∨ (x < 0 ∧ 0 < y)) : btw u v := by
  have key : ∀ u v x y : Int, v * y + (u - v) * x = 0 → 0 < x → y < 0 → btw u v := by
    intro u v x y h hx hy
    have e : v * -y = (u - v) * x := by rw [Int.mul_neg]; omega
    unfold btw
    rcases Int.lt_trichotomy v 0 with hv | hv | hv
    · right
      have := Int.mul_pos (show 0 < -v by omega) (show 0 < -y by omega)
      rw [Int.neg_mul, e, ← Int.neg_mul] at this
      have := Int.pos_of_mul_pos_left this hx
      omega
    · subst hv
      rw [Int.zero_mul] at e
      have : u - 0 = 0 := by
        rcases Int.mul_eq_zero.1 e.symm with h | h <;> omega
      omega
    · left
      have := Int.mul_pos hv (show 0 < -y by omega)
      rw [e] at this
      have := Int.pos_of_mul_pos_left this hx
      omega
  rcases hxy with hxy | hxy
  · exact key u v x y h hxy.1 hxy.2
  · exact key u v (-x) (-y) (by rw [Int.mul_neg, Int.mul_neg]; omega) (by omega) (by omega)
theorem one_point {a b c d : Pt} (h1 : crossZ a b c = 0) (h3 : crossZ c d a = 0) (h2 : crossZ a b d ≠ 0) : a = c := by
  have e1 : (c.1 - a.1) * crossZ a b d = 0 := by unfold crossZ at *; grind
  have e2 : (c.2 - a.2) * crossZ a b d = 0 := by unfold crossZ at *; grind
  have f1 := (Int.mul_eq_zero.1 e1).resolve_right h2
  have f2 := (Int.mul_eq_zero.1 e2).resolve_right h2
  exact pt_ext (by omega) (by omega)
theorem ne_way {a b : Pt} (h : a ≠ b) : b.1 - a.1 ≠ 0 ∨ b.2 - a.2 ≠ 0 := by
  rcases Int.decEq (b.1 - a.1) 0 with h1 | h1
  · exact .inl h1
  · right; intro h2; exact h (pt_ext (by omega) (by omega))
section
variable {a b c d : Pt}
theorem on_way (h3 : crossZ c d a = 0) : (a.1 - c.1) * crossZ a b d + ((d.1 - c.1) - (a.1 - c.1)) * crossZ a b c = 0 ∧ (a.2 - c.2) * crossZ a b d + ((d.2 - c.2) - (a.2 - c.2)) * crossZ a b c = 0 := by
  unfold crossZ at *
  constructor <;> grind
theorem on_nc (hcd : c ≠ d) (hn : ¬ (crossZ a b c = 0 ∧ crossZ a b d = 0)) : On c d a ↔ crossZ c d a = 0 ∧ ¬ 0 < crossZ a b c * crossZ a b d := by
  rw [On_btw]
  constructor
  · rintro ⟨h3, hb1, hb2⟩
    refine ⟨h3, ?_⟩
    have hw := on_way (b := b) h3
    rcases ne_way hcd with h | h
    · exact prod_neg hw.1 hb1 h
    · exact prod_neg hw.2 hb2 h
  · rintro ⟨h3, hp⟩
    have hw := on_way (b := b) h3
    rw [← On_btw]
    by_cases h1 : crossZ a b c = 0
    · rw [one_point h1 h3 (fun h => hn ⟨h1, h⟩)]; exact On_left _ _
    · by_cases h2 : crossZ a b d = 0
      · rw [one_point h2 (by rw [crossZ_swap, h3]; rfl) h1]; exact On_right _ _
      · have hs : (0 < crossZ a b c ∧ crossZ a b d < 0) ∨ (crossZ a b c < 0 ∧ 0 < crossZ a b d) := by
          rcases Int.lt_or_gt_of_ne h1 with q1 | q1 <;> rcases Int.lt_or_gt_of_ne h2 with q2 | q2
          · exact absurd (Int.mul_pos_of_neg_of_neg q1 q2) hp
          · exact .inr ⟨q1, q2⟩
          · exact .inl ⟨q1, q2⟩
          · exact absurd (Int.mul_pos q1 q2) hp
        exact (On_btw _ _ _).2 ⟨h3, btw_opp hw.1 hs, btw_opp hw.2 hs⟩
end
def In3 (D a b g : Int) : Prop := (0 < D ∧ 0 ≤ a ∧ 0 ≤ b ∧ 0 ≤ g) ∨ (D < 0 ∧ a ≤ 0 ∧ b ≤ 0 ∧ g ≤ 0)
theorem tri_sum (a b c p : Pt) : crossZ b c p + crossZ c a p + crossZ a b p = crossZ a b c := by unfold crossZ; grind
theorem InT_of {a b c p : Pt} (h : In3 (crossZ a b c) (crossZ b c p) (crossZ c a p) (crossZ a b p)) : InT a b c p := by
  unfold InT
  unfold In3 at h
  rw [if_neg (by omega)]
  right
  have h1 := sg_cases (crossZ a b c)
  have h2 := sg_cases (crossZ b c p)
  have h3 := sg_cases (crossZ c a p)
  have h4 := sg_cases (crossZ a b p)
  refine ⟨by omega, by omega, by omega⟩
end Go.Proofs.Ytoccfdohlefifaa.Pl.G3
namespace Go.Proofs.Ytoccfdohlefifaa.Pl
def hasP (g : Gd) (p : Pt) : Prop := hasM g.2.2.2.1 p = true
def hasE (g : Gd) (e : Pt × Pt) : Prop := hasM g.2.2.2.2 e = true
def At (g : Gd) : Prop := ∀ p, hasP g p → p ∈ g.2.2.1
def LeG (g g' : Gd) : Prop := (∀ p, hasP g p → hasP g' p) ∧ ∀ e, hasE g e → hasE g' e
theorem LeG.refl (g : Gd) : LeG g g := ⟨fun _ h => h, fun _ h => h⟩
theorem LeG.trans {a b c : Gd} (h : LeG a b) (k : LeG b c) : LeG a c := ⟨fun p hp => k.1 p (h.1 p hp), fun e he => k.2 e (h.2 e he)⟩
theorem putP_facts (g : Gd) (p : Pt) (h : At g) : At (putP g p) ∧ LeG g (putP g p) ∧ hasP (putP g p) p := by
  unfold putP
  by_cases hh : hasM g.2.2.2.1 p = true
  · rw [if_pos hh]; exact ⟨h, LeG.refl g, hh⟩
  · rw [if_neg hh]
    refine ⟨fun q hq => ?_, ⟨fun q hq => ?_, fun e he => he⟩, ?_⟩
    · have hq : hasM (upM g.2.2.2.1 p true) q = true := hq
      show q ∈ g.2.2.1 ++ [p]
      rw [hasM_up] at hq
      by_cases e : q = p
      · simp [e]
      · rw [if_neg e] at hq
        exact List.mem_append.2 (.inl (h q hq))
    · show hasM (upM g.2.2.2.1 p true) q = true
      rw [hasM_up]; split
      · rfl
      · exact hq
    · show hasM (upM g.2.2.2.1 p true) p = true
      rw [hasM_up, if_pos rfl]
theorem putE_facts (g : Gd) (q p : Pt) (h : At g) : At (putE g q p) ∧ LeG g (putE g q p) ∧ (q ≠ p → hasE (putE g q p) (btw q p)) := by
  unfold putE
  by_cases hh : q = p
  · rw [if_pos hh]; exact ⟨h, LeG.refl g, fun k => (k hh).elim⟩
  · rw [if_neg hh]
    refine ⟨h, ⟨fun _ h => h, fun e he => ?_⟩, fun _ => ?_⟩
    · show hasM (upM g.2.2.2.2 (btw q p) true) e = true
      rw [hasM_up]; split
      · rfl
      · exact he
    · show hasM (upM g.2.2.2.2 (btw q p) true) (btw q p) = true
      rw [hasM_up, if_pos rfl]
theorem conv {D α β γ x y z p lo : Int} (h : G3.In3 D α β γ) (hs : α + β + γ = D) (hp : D * p = α * x + β * y + γ * z) (hx : lo ≤ x) (hy : lo ≤ y) (hz : lo ≤ z) : lo ≤ p := by
  have key : ∀ D α β γ : Int, 0 < D → 0 ≤ α → 0 ≤ β → 0 ≤ γ → α + β + γ = D → D * p = α * x + β * y + γ * z → lo ≤ p := by
    intro D α β γ hD ha hb hc hs hp
    have h1 := Int.mul_nonneg ha (show 0 ≤ x - lo by omega)
    have h2 := Int.mul_nonneg hb (show 0 ≤ y - lo by omega)
    have h3 := Int.mul_nonneg hc (show 0 ≤ z - lo by omega)
    have e : D * (p - lo) = α * (x - lo) + β * (y - lo) + γ * (z - lo) := by grind
    rcases Int.lt_or_le p lo with q | q
    · have := Int.mul_neg_of_pos_of_neg hD (show p - lo < 0 by omega); omega
    · exact q
  rcases h with ⟨hD, h1, h2, h3⟩ | ⟨hD, h1, h2, h3⟩
  · exact key D α β γ hD h1 h2 h3 hs hp
  · exact key (-D) (-α) (-β) (-γ) (by omega) (by omega) (by omega) (by omega) (by omega) (by simp only [Int.neg_mul]; omega)
theorem conv2 {D α β γ x y z p hi : Int} (h : G3.In3 D α β γ) (hs : α + β + γ = D) (hp : D * p = α * x + β * y + γ * z) (hx : x ≤ hi) (hy : y ≤ hi) (hz : z ≤ hi) : p ≤ hi := by
  have := conv (x := -x) (y := -y) (z := -z) (p := -p) (lo := -hi) h hs (by simp only [Int.mul_neg]; omega) (by omega) (by omega) (by omega)
  omega
theorem InT_box {a b c p : Pt} (ha : May a) (hb : May b) (hc : May c) (hp : May p) (h : InT a b c p) : Mt (boxP [a, b, c]) (p, p) := by
  have hin : (min a.1 (min b.1 c.1) ≤ p.1 ∧ p.1 ≤ max a.1 (max b.1 c.1)) ∧ min a.2 (min b.2 c.2) ≤ p.2 ∧ p.2 ≤ max a.2 (max b.2 c.2) := by
    unfold InT at h
    by_cases h0 : crossZ a b c = 0
    · rw [if_pos h0] at h
      unfold On at h
      omega
    · rw [if_neg h0] at h
      rcases h with rfl | h
      · omega
      · have s1 := sg_cases (crossZ a b c)
        have s2 := sg_cases (crossZ b c p)
        have s3 := sg_cases (crossZ c a p)
        have s4 := sg_cases (crossZ a b p)
        have h3 : G3.In3 (crossZ a b c) (crossZ b c p) (crossZ c a p) (crossZ a b p) := by unfold G3.In3; omega
        have hs := G3.tri_sum a b c p
        have e1 : crossZ a b c * p.1 = crossZ b c p * a.1 + crossZ c a p * b.1 + crossZ a b p * c.1 := by unfold crossZ; grind
        have e2 : crossZ a b c * p.2 = crossZ b c p * a.2 + crossZ c a p * b.2 + crossZ a b p * c.2 := by unfold crossZ; grind
        exact ⟨⟨conv h3 hs e1 (by omega) (by omega) (by omega), conv2 h3 hs e1 (by omega) (by omega) (by omega)⟩, conv h3 hs e2 (by omega) (by omega) (by omega), conv2 h3 hs e2 (by omega) (by omega) (by omega)⟩
  unfold May at ha hb hc hp
  unfold Mt RB May boxP lowP highP
  simp only [List.foldl_cons, List.foldl_nil, List.getD_cons_zero, mn_eq, mx_eq]
  omega
end Go.Proofs.Ytoccfdohlefifaa.Pl
