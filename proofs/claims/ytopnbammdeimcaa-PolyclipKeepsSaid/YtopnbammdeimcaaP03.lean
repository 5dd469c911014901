import Derived.Test.YtopnbammdeimcaaOfs
namespace Go.Proofs.Ytopnbammdeimcaa.Pl
theorem Cut_eq (l : List Pt) : law03_Cut l = some (l.take 40) := by
  unfold law03_Cut
  have e : mn (l.length : Int) 40 = ((min l.length 40 : Nat) : Int) := by rw [mn_eq]; omega
  rw [e, cut_to (by omega)]
  by_cases h : l.length ≤ 40
  · rw [show min l.length 40 = l.length by omega, List.take_of_length_le (Nat.le_refl _), List.take_of_length_le h]; rfl
  · rw [show min l.length 40 = 40 by omega]; rfl
def May (p : Pt) : Prop := -16777216 ≤ p.1 ∧ p.1 ≤ 16777216 ∧ -16777216 ≤ p.2 ∧ p.2 ≤ 16777216
instance (p : Pt) : Decidable (May p) := by unfold May; infer_instance
theorem within_eq (n a b : Int) : exact_within n a b = some (decide (a ≤ n ∧ n ≤ b)) := by
  unfold exact_within
  rw [bind_some']
  by_cases h1 : a ≤ n <;> by_cases h2 : n ≤ b <;> simp [h1, h2]
theorem Right_eq (l : List Pt) (hn : l.length ≤ 1000000) : exact_Right l = some (decide (∀ p ∈ l, May p)) := by
  unfold exact_Right exact_Right_l1
  have hb : ∀ k, k < l.length → exact_Right_b1 l (k : Int) = some (if May (l.getD k (0, 0)) then .inl ((k + 1 : Nat) : Int) else .inr false) := fun k hk => by
    unfold exact_Right_b1
    simp only [dlt hk, if_true, ix_getD (0, 0) hk, bind_some', within_eq, ad_one (show k < 1000000000 by omega)]
    by_cases h1 : -16777216 ≤ (l.getD k (0, 0)).1 ∧ (l.getD k (0, 0)).1 ≤ 16777216
    · rw [decide_eq_true h1]
      simp only [Bool.not_true, Bool.not_false, gd_true, bind_some', Bool.false_or]
      by_cases h2 : -16777216 ≤ (l.getD k (0, 0)).2 ∧ (l.getD k (0, 0)).2 ≤ 16777216
      · rw [decide_eq_true h2, if_pos (show May _ from ⟨h1.1, h1.2, h2⟩)]; rfl
      · rw [decide_eq_false h2, if_neg (show ¬ May (l.getD k (0, 0)) from fun h => h2 h.2.2)]; rfl
    · rw [decide_eq_false h1, if_neg (show ¬ May (l.getD k (0, 0)) from fun h => h1 ⟨h.1, h.2.1⟩)]; rfl
  have := loopO_all (body := fun s => exact_Right_b1 l s) (fun k => (k : Int)) l.length (fun k => May (l.getD k (0, 0))) true false (fun k hk hok => by
    simp only [hb k hk, if_pos hok]) (fun k hk hok => by
    simp only [hb k hk, if_neg hok]) (by
    unfold exact_Right_b1
    simp only [dnlt (Nat.lt_irrefl _)]; rfl)
  refine (show loopO _ _ = _ from this).trans ?_
  congr 1
  by_cases h : ∀ p ∈ l, May p
  · rw [if_pos (fun k hk => h _ (getD_mem hk)), decide_eq_true h]
  · rw [if_neg (fun hh => h fun p hp => ?_), decide_eq_false h]
    obtain ⟨i, hi, rfl⟩ := mem_getD (d := ((0, 0) : Pt)) hp
    exact hh i hi
end Go.Proofs.Ytopnbammdeimcaa.Pl
