/-
  Chapter 22, plainly: edges that are shown, and parts. No program in sight.
-/
import Derived.Test.YthjcpojcpafbjaaP22a
namespace Go.Proofs.Ythjcpojcpafbjaa.Pl

abbrev Bx := Pt × Pt
def Rt (b : Bx) : Prop := May b.1 ∧ May b.2 ∧ b.1.1 ≤ b.2.1 ∧ b.1.2 ≤ b.2.2
instance (b : Bx) : Decidable (Rt b) := by unfold Rt; infer_instance
def In (p : Pt) (b : Bx) : Prop := b.1.1 ≤ p.1 ∧ p.1 ≤ b.2.1 ∧ b.1.2 ≤ p.2 ∧ p.2 ≤ b.2.2
instance (p : Pt) (b : Bx) : Decidable (In p b) := by unfold In; infer_instance
def Sd (p q low high : Int) : Prop := p = q ∧ (p = low ∨ p = high)
instance (p q low high : Int) : Decidable (Sd p q low high) := by unfold Sd; infer_instance
def Shw (p q : Pt) (b : Bx) : Prop := p ≠ q ∧ (May p ∧ May q) ∧ Rt b ∧ In p b ∧ In q b ∧ ¬ Sd p.1 q.1 b.1.1 b.2.1 ∧ ¬ Sd p.2 q.2 b.1.2 b.2.2
instance (p q : Pt) (b : Bx) : Decidable (Shw p q b) := by unfold Shw; infer_instance
theorem Right2_eq (p q : Pt) : exact_Right [p, q] = some (decide (May p ∧ May q)) := by
  rw [Right_eq _ (by simp)]
  congr 1
  simp
theorem rows_Right_eq (b : Bx) : rows_Right b = some (decide (Rt b)) := by
  unfold rows_Right
  rw [Right2_eq, bind_some']
  simp only [bind_some']
  by_cases h1 : May b.1 ∧ May b.2 <;> by_cases h2 : b.1.1 ≤ b.2.1 <;> by_cases h3 : b.1.2 ≤ b.2.2 <;> simp [h1, h2, h3, Rt]
  all_goals (intro h4 h5; exact absurd ⟨h4, h5⟩ h1)
theorem lwithin_eq (p : Pt) (b : Bx) : lineclip_within p b = some (decide (In p b)) := by
  unfold lineclip_within
  simp only [bind_some']
  by_cases h1 : b.1.1 ≤ p.1 <;> by_cases h2 : p.1 ≤ b.2.1 <;> by_cases h3 : b.1.2 ≤ p.2 <;> by_cases h4 : p.2 ≤ b.2.2 <;> simp [h1, h2, h3, h4, In]
theorem side_eq (p q low high : Int) : lineclip_side p q low high = some (decide (Sd p q low high)) := by
  unfold lineclip_side
  simp only [bind_some']
  by_cases h1 : p = q <;> by_cases h2 : p = low <;> by_cases h3 : p = high <;> simp [h1, h2, h3, Sd] <;> simp_all
theorem Shown_eq (p q : Pt) (b : Bx) : lineclip_Shown p q b = some (decide (Shw p q b)) := by
  unfold lineclip_Shown
  simp only [Right2_eq, rows_Right_eq, lwithin_eq, side_eq]
  by_cases h1 : p = q
  · have : ¬ Shw p q b := fun h => h.1 h1
    simp [h1, gd, this]
    exact fun h => h.1 rfl
  by_cases h2 : May p ∧ May q
  · by_cases h3 : Rt b
    · by_cases h4 : In p b
      · by_cases h5 : In q b
        · by_cases h6 : Sd p.1 q.1 b.1.1 b.2.1
          · have : ¬ Shw p q b := fun h => h.2.2.2.2.2.1 h6
            simp [h1, h2, h3, h4, h5, h6, gd, this]
          · by_cases h7 : Sd p.2 q.2 b.1.2 b.2.2
            · have : ¬ Shw p q b := fun h => h.2.2.2.2.2.2 h7
              simp [h1, h2, h3, h4, h5, h6, h7, gd, this]
            · have : Shw p q b := ⟨h1, h2, h3, h4, h5, h6, h7⟩
              simp [h1, h2, h3, h4, h5, h6, h7, gd, this]
        · have : ¬ Shw p q b := fun h => h5 h.2.2.2.2.1
          simp [h1, h2, h3, h4, h5, gd, this]
      · have : ¬ Shw p q b := fun h => h4 h.2.2.2.1
        simp [h1, h2, h3, h4, gd, this]
    · have : ¬ Shw p q b := fun h => h3 h.2.2.1
      simp [h1, h2, h3, gd, this]
  · have : ¬ Shw p q b := fun h => h2 h.2.1
    have h2' : decide (May p ∧ May q) = false := decide_eq_false h2
    simp [h1, h2', gd, this]

/-! ### parts -/
/-- Is the edge up to place i shown? -/
def sh (l : List Pt) (b : Bx) (i : Nat) : Bool := decide (Shw (l.getD (i - 1) (0, 0)) (l.getD i (0, 0)) b)
/-- The parts, edges below i having been seen; does the last one go on? -/
def prt (l : List Pt) (b : Bx) : Nat → List (List Pt) × Bool
  | 0 => ([], false)
  | i + 1 => if i = 0 then ([], false) else if sh l b i then (if (prt l b i).2 then ((prt l b i).1.set ((prt l b i).1.length - 1) ((prt l b i).1.getD ((prt l b i).1.length - 1) [] ++ [l.getD i (0, 0)])) else (prt l b i).1 ++ [[l.getD (i - 1) (0, 0), l.getD i (0, 0)]], true) else ((prt l b i).1, false)
def parts (l : List Pt) (b : Bx) : List (List Pt) := (prt l b l.length).1
theorem prt_one (l : List Pt) (b : Bx) : prt l b 1 = ([], false) := rfl
theorem prt_succ {l : List Pt} {b : Bx} {i : Nat} (h : 0 < i) : prt l b (i + 1) = if sh l b i then (if (prt l b i).2 then ((prt l b i).1.set ((prt l b i).1.length - 1) ((prt l b i).1.getD ((prt l b i).1.length - 1) [] ++ [l.getD i (0, 0)])) else (prt l b i).1 ++ [[l.getD (i - 1) (0, 0), l.getD i (0, 0)]], true) else ((prt l b i).1, false) := by
  rw [prt, if_neg (by omega)]
/-- A part that goes on is the last one, from somewhere on. -/
theorem prt_goes {l : List Pt} {b : Bx} : ∀ i, i ≤ l.length → (prt l b i).1.length ≤ i ∧ ((prt l b i).2 = true → ∃ f, f < i ∧ (prt l b i).1 = (prt l b i).1.take ((prt l b i).1.length - 1) ++ [(l.take i).drop f] ∧ 0 < (prt l b i).1.length) := by
  intro i
  induction i with
  | zero => intro _; exact ⟨by simp [prt], fun h => by simp [prt] at h⟩
  | succ i ih =>
    intro hi
    obtain ⟨h1, h2⟩ := ih (by omega)
    rcases Nat.eq_zero_or_pos i with h0 | h0
    · subst h0; exact ⟨by simp [prt_one], fun h => by simp [prt_one] at h⟩
    · rw [prt_succ h0]
      by_cases hs : sh l b i = true
      · rw [if_pos hs]
        by_cases hg : (prt l b i).2 = true
        · rw [if_pos hg]
          obtain ⟨f, hf, he, hp⟩ := h2 hg
          refine ⟨by simp only [List.length_set]; omega, fun _ => ⟨f, by omega, ?_, by simp only [List.length_set]; omega⟩⟩
          have hlast : (prt l b i).1.getD ((prt l b i).1.length - 1) [] = (l.take i).drop f := by
            conv => lhs; rw [he]
            have hl : ((prt l b i).1.take ((prt l b i).1.length - 1)).length = (prt l b i).1.length - 1 := by rw [List.length_take]; omega
            rw [getD_append_right (by rw [hl, List.length_append, hl]; simp), List.length_append, hl]
            simp
          simp only [List.length_set, hlast]
          rw [set_last _ (by intro e; rw [e] at hp; simp at hp), List.take_left' (by rw [List.length_take]; omega), snoc_take (0, 0) (show i < l.length by omega), List.drop_append_of_le_length (by rw [List.length_take]; omega)]
        · rw [if_neg hg]
          refine ⟨by simp only [List.length_append, List.length_singleton]; omega, fun _ => ⟨i - 1, by omega, ?_, by simp⟩⟩
          simp only [List.length_append, List.length_singleton, Nat.add_sub_cancel]
          rw [List.take_left]
          congr 2
          have e1 := snoc_take (l := l) (k := i) (0, 0) (by omega)
          have e2 := snoc_take (l := l) (k := i - 1) (0, 0) (by omega)
          rw [show i - 1 + 1 = i by omega] at e2
          rw [e1, e2, List.append_assoc, List.drop_left' (by rw [List.length_take]; omega)]
          rfl
      · rw [if_neg hs]
        exact ⟨by simp only; omega, fun h => by simp at h⟩
end Go.Proofs.Ythjcpojcpafbjaa.Pl
