import Derived.Test.YtopnbammdeimcaaJor
namespace Go.Proofs.Ytopnbammdeimcaa.Jor
theorem Sx_zeros (L : List (Rat × Int)) (E : List Rat) : Sx (L ++ E.map (fun x => (x, (0 : Int)))) = Sx L := by
  induction L with
  | nil =>
    induction E with
    | nil => rfl
    | cons x E ih =>
      simp only [List.nil_append] at ih ⊢
      show ((0 : Int) : Rat) * x + Sx (E.map (fun x => (x, (0 : Int)))) = _
      rw [ih]
      have : ((0 : Int) : Rat) = 0 := rfl
      rw [this]; grind
  | cons p L ih => obtain ⟨x, s⟩ := p; rw [List.cons_append, Sx, Sx, ih]
theorem Ss_zeros (L : List (Rat × Int)) (E : List Rat) : Ss (L ++ E.map (fun x => (x, (0 : Int)))) = Ss L := by
  induction L with
  | nil =>
    induction E with
    | nil => rfl
    | cons x E ih =>
      simp only [List.nil_append] at ih ⊢
      show (0 : Int) + Ss (E.map (fun x => (x, (0 : Int)))) = _
      rw [ih]; rfl
  | cons p L ih => obtain ⟨x, s⟩ := p; rw [List.cons_append, Ss, Ss, ih]
theorem Rs_zeros (y : Rat) (L : List (Rat × Int)) (E : List Rat) : Rs y (L ++ E.map (fun x => (x, (0 : Int)))) = Rs y L := by
  induction L with
  | nil =>
    induction E with
    | nil => rfl
    | cons x E ih =>
      simp only [List.nil_append] at ih ⊢
      show (if y < x then (0 : Int) else 0) + Rs y (E.map (fun x => (x, (0 : Int)))) = _
      rw [ih]
      split <;> rfl
  | cons p L ih => obtain ⟨x, s⟩ := p; rw [List.cons_append, Rs, Rs, ih]
section
variable {n : Nat} {P : Nat → Q2} (hn : 0 < n) (hper : ∀ i, P (i + n) = P i) {w : Int} (hw : w = 1 ∨ w = -1) {D : List Rat} {E : Rat → List Rat} (H : ∀ x t, Off P x t → t ∉ D → x ∉ E t → 0 ≤ w * W n P x t)
include hn hper H
theorem level_sumX {m : Rat} (hm : ∀ j, (P j).2 ≠ m) (hmD : m ∉ D) : 0 ≤ (w : Rat) * sumQ (fun j => (sg (P j) (P (j + 1)) m : Rat) * xat (P j) (P (j + 1)) m) n ∧ ((∃ y, Off P y m ∧ y ∉ E m ∧ 0 < w * W n P y m) → 0 < (w : Rat) * sumQ (fun j => (sg (P j) (P (j + 1)) m : Rat) * xat (P j) (P (j + 1)) m) n) := by
  have hoff : ∀ y, (∀ p ∈ lst P w m n ++ (E m).map (fun x => (x, (0 : Int))), p.1 ≠ y) → Off P y m ∧ y ∉ E m := fun y hy => by
    refine ⟨⟨hm, fun j => all_of hn hper (q := fun a b => ospn a b m → xat a b m ≠ y) (fun j hj ho => by
    obtain ⟨p, hp, e⟩ := mem_lst P w m n j hj (ospn_sg ho)
    rw [← e]; exact hy p (List.mem_append_left _ hp)) j⟩, fun hE => hy (y, 0) (List.mem_append_right _ (List.mem_map.2 ⟨y, hE, rfl⟩)) rfl⟩
  have := signed (lst P w m n ++ (E m).map (fun x => (x, (0 : Int)))) (by
    rw [Ss_zeros, lst_Ss]
    have : sumN (fun j => sg (P j) (P (j + 1)) m) n = 0 := by
      have := sumN_tel (fun j => bl (P j).2 m) n
      have e := hper 0
      rw [Nat.zero_add] at e
      rw [e, Int.sub_self] at this
      exact this
    rw [this]; simp) (fun y hy => by rw [Rs_zeros, lst_Rs]; exact H y m (hoff y hy).1 hmD (hoff y hy).2)
  rw [Sx_zeros, lst_Sx] at this
  refine ⟨this.1, fun ⟨y, y1, yE, y2⟩ => this.2 ⟨y, fun p hp e => ?_, by rw [Rs_zeros, lst_Rs]; exact y2⟩⟩
  rcases List.mem_append.1 hp with hp | hp
  · obtain ⟨j, hj, h1, h2⟩ := lst_mem P w m n p hp
    exact y1.2 j (sg_ne h1 (hm j) (hm (j + 1))) (by rw [← h2, e])
  · obtain ⟨x, hx, rfl⟩ := List.mem_map.1 hp
    exact yE (by rw [← e]; exact hx)
theorem S_stepX {s t : Rat} (hst : s < t) (hno : ∀ j, ¬ (s < (P j).2 ∧ (P j).2 < t)) (hnD : (s + t) / 2 ∉ D) : 0 ≤ (w : Rat) * (S n P t - S n P s) ∧ ((∃ y, Off P y ((s + t) / 2) ∧ y ∉ E ((s + t) / 2) ∧ 0 < w * W n P y ((s + t) / 2)) → 0 < (w : Rat) * (S n P t - S n P s)) := by
  have hl := level_sumX hn hper H (m := (s + t) / 2) (fun j e => by have := hno j; grind) hnD
  have e : S n P t - S n P s = 2 * (t - s) * sumQ (fun j => (sg (P j) (P (j + 1)) ((s + t) / 2) : Rat) * xat (P j) (P (j + 1)) ((s + t) / 2)) n := by
    unfold S
    rw [← sumQ_sub, ← sumQ_mul]
    exact sumQ_congr fun j _ => ph_step hst (hno j) (hno (j + 1))
  rw [e]
  generalize sumQ (fun j => (sg (P j) (P (j + 1)) ((s + t) / 2) : Rat) * xat (P j) (P (j + 1)) ((s + t) / 2)) n = z at *
  refine ⟨?_, fun hh => ?_⟩
  · have := Rat.mul_nonneg (show 0 ≤ 2 * (t - s) by grind) hl.1
    grind
  · have := Rat.mul_pos (show 0 < 2 * (t - s) by grind) (hl.2 hh)
    grind
theorem S_monoX : ∀ (Lv : List Rat) (s t : Rat), s ≤ t → (∀ j, s < (P j).2 → (P j).2 < t → (P j).2 ∈ Lv) → (∀ d ∈ D, s < d → d < t → d ∈ Lv) → 0 ≤ (w : Rat) * (S n P t - S n P s)
  | [], s, t, hst, h, hD => by
    by_cases e : s = t
    · subst e; grind
    · exact (S_stepX hn hper H (by grind) (fun j hj => by have := h j hj.1 hj.2; simp at this) (fun hd => by have := hD _ hd (by grind) (by grind); simp at this)).1
  | l :: Lv, s, t, hst, h, hD => by
    by_cases hl : s < l ∧ l < t
    · have h1 := S_monoX Lv s l (by grind) (fun j a1 a2 => by
        rcases List.mem_cons.1 (h j a1 (by grind)) with e | e
        · grind
        · exact e) (fun d hd a1 a2 => by
        rcases List.mem_cons.1 (hD d hd a1 (by grind)) with e | e
        · grind
        · exact e)
      have h2 := S_monoX Lv l t (by grind) (fun j a1 a2 => by
        rcases List.mem_cons.1 (h j (by grind) a2) with e | e
        · grind
        · exact e) (fun d hd a1 a2 => by
        rcases List.mem_cons.1 (hD d hd (by grind) a2) with e | e
        · grind
        · exact e)
      grind
    · exact S_monoX Lv s t hst (fun j a1 a2 => by
        rcases List.mem_cons.1 (h j a1 a2) with e | e
        · grind
        · exact e) (fun d hd a1 a2 => by
        rcases List.mem_cons.1 (hD d hd a1 a2) with e | e
        · grind
        · exact e)
end
theorem area_signX {n : Nat} {P : Nat → Q2} (hn : 0 < n) (hper : ∀ i, P (i + n) = P i) {w : Int} {D : List Rat} {E : Rat → List Rat} (H : ∀ x t, Off P x t → t ∉ D → x ∉ E t → 0 ≤ w * W n P x t) : 0 ≤ (w : Rat) * area n P ∧ ((∃ x t, Off P x t ∧ t ∉ D ∧ x ∉ E t ∧ 0 < w * W n P x t) → 0 < (w : Rat) * area n P) := by
  obtain ⟨s, t, hst, hb⟩ := bounds (fun j => (P j).2) n
  have hb : ∀ j, s ≤ (P j).2 ∧ (P j).2 ≤ t := fun j => all_of hn hper (q := fun a _ => s ≤ a.2 ∧ a.2 ≤ t) hb j
  have hmem : ∀ j, (P j).2 ∈ (List.range n).map (fun j => (P j).2) := fun j => all_of hn hper (q := fun a _ => a.2 ∈ (List.range n).map (fun j => (P j).2)) (fun j hj => List.mem_map.2 ⟨j, List.mem_range.2 hj, rfl⟩) j
  have mono : ∀ a b, a ≤ b → 0 ≤ (w : Rat) * (S n P b - S n P a) := fun a b hab => S_monoX hn hper H ((List.range n).map (fun j => (P j).2) ++ D) a b hab (fun j _ _ => List.mem_append_left _ (hmem j)) (fun d hd _ _ => List.mem_append_right _ hd)
  have e0 : S n P s = 0 := sumQ_zero fun j _ => ph_lo (hb j).1 (hb (j + 1)).1
  have e1 : S n P t = area n P := sumQ_congr fun j _ => ph_hi (hb j).2 (hb (j + 1)).2
  have h1 := mono s t hst
  rw [e0, e1] at h1
  refine ⟨by grind, ?_⟩
  rintro ⟨x, m, ho, hmD, hxE, hx⟩
  have hlo : ∃ d : Rat, 0 < d ∧ ∀ j, ¬ (m - d < (P j).2 ∧ (P j).2 < m + d) := by
    obtain ⟨t1, a1, a2⟩ := lev_near (fun j => (P j).2) m (m + 1) (by grind) n
    obtain ⟨t2, b1, b2⟩ := lev_near (fun j => (P j).2) m (m - 1) (by grind) n
    have a2 : ∀ j, ¬ (m < (P j).2 ∧ (P j).2 ≤ t1) := fun j => all_of hn hper (q := fun a _ => ¬ (m < a.2 ∧ a.2 ≤ t1)) (fun j hj => (a2 j hj).2) j
    have b2 : ∀ j, ¬ (t2 ≤ (P j).2 ∧ (P j).2 < m) := fun j => all_of hn hper (q := fun a _ => ¬ (t2 ≤ a.2 ∧ a.2 < m)) (fun j hj => (b2 j hj).1) j
    by_cases hd : t1 - m ≤ m - t2
    · refine ⟨t1 - m, by grind, fun j hj => ?_⟩
      have := a2 j; have := b2 j; have := ho.1 j
      grind
    · refine ⟨m - t2, by grind, fun j hj => ?_⟩
      have := a2 j; have := b2 j; have := ho.1 j
      grind
  obtain ⟨d, hd, hno⟩ := hlo
  have em : (m - d + (m + d)) / 2 = m := by grind
  have hs := (S_stepX hn hper H (s := m - d) (t := m + d) (by grind) hno (by rw [em]; exact hmD)).2 (by rw [em]; exact ⟨x, ho, hxE, hx⟩)
  have hbm : ∃ j, s < m ∧ m < t ∨ (s ≤ (P j).2 ∧ (P j).2 ≤ t) := ⟨0, .inr (hb 0)⟩
  -- all levels lie between s and t; below s and above t the sum stays
  have lowS : ∀ a, a ≤ s → S n P a = 0 := fun a ha => sumQ_zero fun j _ => ph_lo (by have := (hb j).1; grind) (by have := (hb (j + 1)).1; grind)
  have hiS : ∀ a, t ≤ a → S n P a = area n P := fun a ha => sumQ_congr fun j _ => ph_hi (by have := (hb j).2; grind) (by have := (hb (j + 1)).2; grind)
  have l1 : 0 ≤ (w : Rat) * S n P (m - d) := by
    by_cases hc : m - d ≤ s
    · rw [lowS _ hc]; grind
    · have := mono s (m - d) (by grind); rw [e0] at this; grind
  have l2 : 0 ≤ (w : Rat) * (area n P - S n P (m + d)) := by
    by_cases hc : t ≤ m + d
    · rw [hiS _ hc]; grind
    · have := mono (m + d) t (by grind); rw [e1] at this; grind
  grind
theorem rt_side {A B : Q2} {x t k ε : Rat} : (A.1 + ε * A.2 ≤ k → B.1 + ε * B.2 ≤ k → k < x + ε * t → rt x A B t = 0) ∧ (k ≤ A.1 + ε * A.2 → k ≤ B.1 + ε * B.2 → x + ε * t < k → rt x A B t = sg A B t) := by
  by_cases hs : sg A B t = 0
  · constructor
    · intro _ _ _; unfold rt; rw [hs]; split <;> rfl
    · intro _ _ _; unfold rt; rw [hs]; split <;> rfl
  · have hne : B.2 - A.2 ≠ 0 := fun e => hs (by unfold sg bl; grind)
    have hb : (A.2 ≤ t ∧ t ≤ B.2) ∨ (B.2 ≤ t ∧ t ≤ A.2) := by unfold sg bl at hs; grind
    have e : (xat A B t + ε * t) * (B.2 - A.2) = (A.1 + ε * A.2) * (B.2 - t) + (B.1 + ε * B.2) * (t - A.2) := by
      unfold xat
      have := Rat.div_mul_cancel (a := B.1 - A.1) hne
      grind
    obtain ⟨z, hz⟩ : ∃ z, z = xat A B t + ε * t := ⟨_, rfl⟩
    rw [← hz] at e
    have key : (A.1 + ε * A.2 ≤ k → B.1 + ε * B.2 ≤ k → z ≤ k) ∧ (k ≤ A.1 + ε * A.2 → k ≤ B.1 + ε * B.2 → k ≤ z) := by
      generalize A.1 + ε * A.2 = p at e ⊢
      generalize B.1 + ε * B.2 = q at e ⊢
      rcases hb with ⟨h1, h2⟩ | ⟨h1, h2⟩
      · constructor
        · intro hp hq
          have a1 := Rat.mul_nonneg (show 0 ≤ k - p by grind) (show 0 ≤ B.2 - t by grind)
          have a2 := Rat.mul_nonneg (show 0 ≤ k - q by grind) (show 0 ≤ t - A.2 by grind)
          refine Rat.not_lt.1 fun hz => ?_
          have a3 := Rat.mul_pos (show 0 < z - k by grind) (show 0 < B.2 - A.2 by grind)
          grind
        · intro hp hq
          have a1 := Rat.mul_nonneg (show 0 ≤ p - k by grind) (show 0 ≤ B.2 - t by grind)
          have a2 := Rat.mul_nonneg (show 0 ≤ q - k by grind) (show 0 ≤ t - A.2 by grind)
          refine Rat.not_lt.1 fun hz => ?_
          have a3 := Rat.mul_pos (show 0 < k - z by grind) (show 0 < B.2 - A.2 by grind)
          grind
      · constructor
        · intro hp hq
          have a1 := Rat.mul_nonneg (show 0 ≤ k - p by grind) (show 0 ≤ t - B.2 by grind)
          have a2 := Rat.mul_nonneg (show 0 ≤ k - q by grind) (show 0 ≤ A.2 - t by grind)
          refine Rat.not_lt.1 fun hz => ?_
          have a3 := Rat.mul_pos (show 0 < z - k by grind) (show 0 < A.2 - B.2 by grind)
          grind
        · intro hp hq
          have a1 := Rat.mul_nonneg (show 0 ≤ p - k by grind) (show 0 ≤ t - B.2 by grind)
          have a2 := Rat.mul_nonneg (show 0 ≤ q - k by grind) (show 0 ≤ A.2 - t by grind)
          refine Rat.not_lt.1 fun hz => ?_
          have a3 := Rat.mul_pos (show 0 < k - z by grind) (show 0 < A.2 - B.2 by grind)
          grind
    constructor
    · intro h1 h2 h3
      have := key.1 h1 h2
      unfold rt
      rw [if_neg (by grind)]
    · intro h1 h2 h3
      have := key.2 h1 h2
      unfold rt
      rw [if_pos (by grind)]
end Go.Proofs.Ytopnbammdeimcaa.Jor
