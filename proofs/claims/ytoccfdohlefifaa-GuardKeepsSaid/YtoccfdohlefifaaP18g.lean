import Derived.Test.YtoccfdohlefifaaP18f
namespace Go.Proofs.Ytoccfdohlefifaa.Pl.G3
set_option maxRecDepth 4000
def opp (x y : Int) : Prop := (0 < x ∧ y < 0) ∨ (x < 0 ∧ 0 < y)
instance (x y : Int) : Decidable (opp x y) := by unfold opp; infer_instance
theorem opp_mul {x y : Int} : opp x y ↔ x * y < 0 := by
  unfold opp
  constructor
  · rintro (⟨h1, h2⟩ | ⟨h1, h2⟩)
    · exact Int.mul_neg_of_pos_of_neg h1 h2
    · exact Int.mul_neg_of_neg_of_pos h1 h2
  · intro h
    rcases Int.lt_trichotomy x 0 with q | q | q <;> rcases Int.lt_trichotomy y 0 with r | r | r
    · have := Int.mul_pos_of_neg_of_neg q r; omega
    · rw [r, Int.mul_zero] at h; omega
    · exact .inr ⟨q, r⟩
    · rw [q, Int.zero_mul] at h; omega
    · rw [q, Int.zero_mul] at h; omega
    · rw [q, Int.zero_mul] at h; omega
    · exact .inl ⟨q, r⟩
    · rw [r, Int.mul_zero] at h; omega
    · have := Int.mul_pos q r; omega
structure Ok4 (a b c d : Pt) : Prop where
  ns : ¬ ((a = c ∧ b = d) ∨ (a = d ∧ b = c))
  o1 : On c d a → a = c ∨ a = d
  o2 : On c d b → b = c ∨ b = d
  o3 : On a b c → c = a ∨ c = b
  o4 : On a b d → d = a ∨ d = b
  pr : ¬ (opp (crossZ a b c) (crossZ a b d) ∧ opp (crossZ c d a) (crossZ c d b))
theorem sg_ne {x y : Int} (h : ¬ sg x = sg y) : opp x y ∨ (x = 0 ∧ y ≠ 0) ∨ (x ≠ 0 ∧ y = 0) := by
  unfold opp
  rcases sg_cases x with q | q | q <;> rcases sg_cases y with r | r | r <;> omega
theorem not_pos {x y : Int} (h : ¬ sg x = sg y) : ¬ 0 < x * y := by
  rcases sg_ne h with q | ⟨q, _⟩ | ⟨_, q⟩
  · have := opp_mul.1 q; omega
  · rw [q, Int.zero_mul]; omega
  · rw [q, Int.mul_zero]; omega
theorem opp_sg {x y : Int} (h : opp x y) : ¬ sg x = sg y := by
  unfold opp at h
  rcases sg_cases x with q | q | q <;> rcases sg_cases y with r | r | r <;> omega
theorem opp_nz {x y : Int} (h : opp x y) : x ≠ 0 ∧ y ≠ 0 := by unfold opp at h; omega
theorem pr_no {a b c d : Pt} (hab : a ≠ b) (hcd : c ≠ d) (n1 : ¬ On c d a) (n2 : ¬ On c d b) (n3 : ¬ On a b c) (n4 : ¬ On a b d) :
    (¬ sg (crossZ a b c) = sg (crossZ a b d) ∧ ¬ sg (crossZ c d a) = sg (crossZ c d b)) ↔ (opp (crossZ a b c) (crossZ a b d) ∧ opp (crossZ c d a) (crossZ c d b)) := by
  constructor
  · rintro ⟨h1, h2⟩
    have hn : ¬ (crossZ a b c = 0 ∧ crossZ a b d = 0) := fun h => h1 (by rw [h.1, h.2])
    have hn2 : ¬ (crossZ b a c = 0 ∧ crossZ b a d = 0) := by rw [crossZ_swap a b c, crossZ_swap a b d]; omega
    have hn3 : ¬ (crossZ c d a = 0 ∧ crossZ c d b = 0) := fun h => h2 (by rw [h.1, h.2])
    have hn4 : ¬ (crossZ d c a = 0 ∧ crossZ d c b = 0) := by rw [crossZ_swap c d a, crossZ_swap c d b]; omega
    have o1 := on_nc hcd hn
    have o2 := on_nc hcd hn2
    have o3 := on_nc hab hn3
    have o4 := on_nc hab hn4
    rw [crossZ_swap a b c, crossZ_swap a b d, Int.neg_mul_neg] at o2
    rw [crossZ_swap c d a, crossZ_swap c d b, Int.neg_mul_neg] at o4
    have p1 := not_pos h1
    have p2 := not_pos h2
    have z1 : crossZ c d a ≠ 0 := fun h => n1 (o1.2 ⟨h, p1⟩)
    have z2 : crossZ c d b ≠ 0 := fun h => n2 (o2.2 ⟨h, p1⟩)
    have z3 : crossZ a b c ≠ 0 := fun h => n3 (o3.2 ⟨h, p2⟩)
    have z4 : crossZ a b d ≠ 0 := fun h => n4 (o4.2 ⟨h, p2⟩)
    have s1 := sg_ne h1
    have s2 := sg_ne h2
    exact ⟨s1.resolve_right (by omega), s2.resolve_right (by omega)⟩
  · rintro ⟨h1, h2⟩
    exact ⟨opp_sg h1, opp_sg h2⟩
theorem On_ends {a c d : Pt} : (a = c ∨ a = d → On c d a) := by
  rintro (rfl | rfl)
  · exact On_left _ _
  · exact On_right _ _
theorem cls_ok {a b c d : Pt} (hab : a ≠ b) (hcd : c ≠ d) : (cls a b c d = 0 ∨ cls a b c d = 1) ↔ Ok4 a b c d := by
  by_cases h5 : (a = c ∧ b = d) ∨ (a = d ∧ b = c)
  · have e : cls a b c d = 5 := by unfold cls; rw [if_pos h5]
    rw [e]
    exact ⟨fun h => by omega, fun h => (h.ns h5).elim⟩
  have i1 := ind_cases (On c d a)
  have i2 := ind_cases (On c d b)
  have i3 := ind_cases (On a b c)
  have i4 := ind_cases (On a b d)
  have j1 := ind_cases (a = c ∨ a = d)
  have j2 := ind_cases (b = c ∨ b = d)
  have m1 : a = c ∨ a = d → On c d a := fun h => On_ends h
  have m2 : b = c ∨ b = d → On c d b := fun h => On_ends h
  have m3 : c = a ∨ c = b → On a b c := fun h => On_ends h
  have m4 : d = a ∨ d = b → On a b d := fun h => On_ends h
  have hnb : ¬ ((a = c ∨ a = d) ∧ (b = c ∨ b = d)) := by
    rintro ⟨h1, h2⟩
    rcases h1 with h1 | h1 <;> rcases h2 with h2 | h2
    · exact hab (h1.trans h2.symm)
    · exact h5 (.inl ⟨h1, h2⟩)
    · exact h5 (.inr ⟨h1, h2⟩)
    · exact hab (h1.trans h2.symm)
  have hnc : ¬ ((c = a ∨ c = b) ∧ (d = a ∨ d = b)) := by
    rintro ⟨h1, h2⟩
    rcases h1 with h1 | h1 <;> rcases h2 with h2 | h2
    · exact hcd (h1.trans h2.symm)
    · exact h5 (.inl ⟨h1.symm, h2.symm⟩)
    · exact h5 (.inr ⟨h2.symm, h1.symm⟩)
    · exact hcd (h1.trans h2.symm)
  have hx : ((a = c ∨ a = d) ∨ (b = c ∨ b = d)) ↔ ((c = a ∨ c = b) ∨ (d = a ∨ d = b)) := by
    constructor
    · rintro ((h | h) | (h | h))
      · exact .inl (.inl h.symm)
      · exact .inr (.inl h.symm)
      · exact .inl (.inr h.symm)
      · exact .inr (.inr h.symm)
    · rintro ((h | h) | (h | h))
      · exact .inl (.inl h.symm)
      · exact .inr (.inl h.symm)
      · exact .inl (.inr h.symm)
      · exact .inr (.inr h.symm)
  have hpr := pr_no hab hcd
  have hsh : ((c = a ∨ c = b) ∨ (d = a ∨ d = b)) → ¬ (opp (crossZ a b c) (crossZ a b d) ∧ opp (crossZ c d a) (crossZ c d b)) := by
    rintro h ⟨q, _⟩
    have q' := opp_nz q
    rcases h with (rfl | rfl) | (rfl | rfl)
    · exact q'.1 (crossZ_left _ _)
    · exact q'.1 (crossZ_right _ _)
    · exact q'.2 (crossZ_left _ _)
    · exact q'.2 (crossZ_right _ _)
  have hok : Ok4 a b c d ↔ (On c d a → a = c ∨ a = d) ∧ (On c d b → b = c ∨ b = d) ∧ (On a b c → c = a ∨ c = b) ∧ (On a b d → d = a ∨ d = b) ∧ ¬ (opp (crossZ a b c) (crossZ a b d) ∧ opp (crossZ c d a) (crossZ c d b)) :=
    ⟨fun h => ⟨h.o1, h.o2, h.o3, h.o4, h.pr⟩, fun h => ⟨h5, h.1, h.2.1, h.2.2.1, h.2.2.2.1, h.2.2.2.2⟩⟩
  rw [hok]
  unfold cls nOn nBo
  rw [if_neg h5]
  generalize ind (On c d a) = x1 at *
  generalize ind (On c d b) = x2 at *
  generalize ind (On a b c) = x3 at *
  generalize ind (On a b d) = x4 at *
  generalize ind (a = c ∨ a = d) = x5 at *
  generalize ind (b = c ∨ b = d) = x6 at *
  generalize On c d a = p1 at *
  generalize On c d b = p2 at *
  generalize On a b c = p3 at *
  generalize On a b d = p4 at *
  generalize (a = c ∨ a = d) = q1 at *
  generalize (b = c ∨ b = d) = q2 at *
  generalize (c = a ∨ c = b) = q3 at *
  generalize (d = a ∨ d = b) = q4 at *
  generalize (opp (crossZ a b c) (crossZ a b d) ∧ opp (crossZ c d a) (crossZ c d b)) = z at *
  suffices key : ∀ (y : Prop) [Decidable y], (¬ p1 → ¬ p2 → ¬ p3 → ¬ p4 → (y ↔ z)) → ((if 1 < x1 + x2 + (x3 + x4) - (x5 + x6) then (4 : Int) else if x1 + x2 + (x3 + x4) - (x5 + x6) = 1 then (if x5 + x6 = 1 then 1 else 2) else if y then 3 else 0) = 0 ∨ (if 1 < x1 + x2 + (x3 + x4) - (x5 + x6) then (4 : Int) else if x1 + x2 + (x3 + x4) - (x5 + x6) = 1 then (if x5 + x6 = 1 then 1 else 2) else if y then 3 else 0) = 1 ↔ (p1 → q1) ∧ (p2 → q2) ∧ (p3 → q3) ∧ (p4 → q4) ∧ ¬ z) from key _ hpr
  clear hpr
  intro y _ hpr
  clear hok hab hcd h5
  rcases i1 with ⟨i1, rfl⟩ | ⟨i1, rfl⟩ <;> rcases i2 with ⟨i2, rfl⟩ | ⟨i2, rfl⟩ <;> rcases i3 with ⟨i3, rfl⟩ | ⟨i3, rfl⟩ <;> rcases i4 with ⟨i4, rfl⟩ | ⟨i4, rfl⟩ <;>
    rcases j1 with ⟨j1, rfl⟩ | ⟨j1, rfl⟩ <;> rcases j2 with ⟨j2, rfl⟩ | ⟨j2, rfl⟩ <;> first
      | exact (j1 |> m1 |> i1).elim
      | exact (j2 |> m2 |> i2).elim
      | exact (hnb ⟨j1, j2⟩).elim
      | (by_cases q3 <;> by_cases q4 <;> by_cases y <;> simp_all)
end Go.Proofs.Ytoccfdohlefifaa.Pl.G3
