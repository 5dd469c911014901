import Derived.Test.YtopnbammdeimcaaP21c
namespace Go.Proofs.Ytopnbammdeimcaa.Pl
theorem far_neg (c : Int) (y : Bool) (p : Pt) : far c false y p = - far c true y p := by
  unfold far
  by_cases h : (fl y p).1 = c
  · rw [if_pos h, if_pos h]; rfl
  · rw [if_neg h, if_neg h]
    by_cases h2 : c < (fl y p).1
    · rw [decide_eq_true h2]; rfl
    · rw [decide_eq_false h2]; rfl
theorem far_zero {c : Int} {up y : Bool} {p : Pt} (h : far c up y p = 0) : (fl y p).1 = c := by
  unfold far at h
  by_cases h1 : (fl y p).1 = c
  · exact h1
  · rw [if_neg h1] at h
    split at h <;> omega
theorem far_on {c : Int} {up y : Bool} {p : Pt} (h : (fl y p).1 = c) : far c up y p = 0 := if_pos h
def sh (e : Pt × Pt) : Int := e.1.1 * e.2.2 - e.2.1 * e.1.2
theorem area_csum {l : List Pt} (hk : Ok l) : area l = csum sh l := by
  unfold area
  rw [aZ_shoe]
  by_cases h : 3 ≤ l.length
  · rw [if_pos ⟨h, hk⟩, ← csum_edg]; rfl
  · rw [if_neg (fun h' => h h'.1)]
    match l, h with
    | [], _ => rfl
    | [a], _ => simp only [csum, List.nil_append, psum, sh]; grind
    | [a, b], _ => simp only [csum, List.cons_append, List.nil_append, psum, sh]; grind
    | _ :: _ :: _ :: _, h => exact absurd (by simp) h
def Sm (p : Pt) : Prop := (-1048576 ≤ p.1 ∧ p.1 ≤ 1048576) ∧ -1048576 ≤ p.2 ∧ p.2 ≤ 1048576
instance (p : Pt) : Decidable (Sm p) := by unfold Sm; infer_instance
theorem far_uncut {c : Int} {y : Bool} {p q : Pt} (h : ¬ Ct (fl y p).1 (fl y q).1 c) : 0 ≤ far c true y p * far c true y q := by
  unfold far
  unfold Ct at h
  by_cases h1 : (fl y p).1 = c
  · rw [if_pos h1]; simp
  · rw [if_neg h1]
    by_cases h2 : (fl y q).1 = c
    · rw [if_pos h2]; simp
    · rw [if_neg h2]
      by_cases h3 : c < (fl y p).1 <;> by_cases h4 : c < (fl y q).1 <;> simp only [h3, h4, decide_true, decide_false, if_true, Bool.false_eq_true, if_false] <;> omega
theorem loopO_bad {S R : Type} {body : S → Option (S ⊕ R)} (st : Nat → S) (n : Nat) (ok : Nat → Prop) (no : R) (h1 : ∀ k, k < n → ok k → body (st k) = some (.inl (st (k + 1)))) (h2 : ∀ k, k < n → ¬ ok k → body (st k) = some (.inr no)) (h : ∃ k, k < n ∧ ¬ ok k) : loopO body (st 0) = some no := by
  have hf : ∀ m, m ≤ n → (∃ k, m ≤ k ∧ k < n ∧ ¬ ok k) → loopO body (st m) = some no := fun m hm h => by
    induction hd : n - m generalizing m with
    | zero => obtain ⟨k, h4, h5, _⟩ := h; omega
    | succ d ih =>
      by_cases hk : ok m
      · rw [loopO_inl (h1 m (by omega) hk)]
        obtain ⟨k, h4, h5, h6⟩ := h
        refine ih (m + 1) (by omega) ⟨k, ?_, h5, h6⟩ (by omega)
        by_cases he : k = m
        · subst he; exact (h6 hk).elim
        · omega
      · exact loopO_inr (h2 m (by omega) hk)
  obtain ⟨k, h4, h5⟩ := h
  exact hf 0 (Nat.zero_le _) ⟨k, Nat.zero_le _, h4, h5⟩
end Go.Proofs.Ytopnbammdeimcaa.Pl
