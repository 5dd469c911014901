import Derived.Test.YtnmkonlfnpcoiaaPre
namespace Go.Proofs.Ytnmkonlfnpcoiaa
section
variable {α : Type}
theorem ix_getD {l : List α} {i : Nat} (d : α) (h : i < l.length) : ix l (i : Int) = some (l.getD i d) := by
  rw [ix_nat, List.getElem?_eq_getElem h, List.getD_eq_getElem?_getD, List.getElem?_eq_getElem h]; rfl
theorem app_le {l m : List α} (h : l.length + m.length ≤ 1000000000) : app l m = some (l ++ m) := app_at h
theorem loopO_up {S R : Type} {body : S → Option (S ⊕ R)} (st : Nat → S) (n : Nat) (hstep : ∀ k, k < n → body (st k) = some (.inl (st (k + 1)))) : ∀ k, k ≤ n → loopO body (st k) = loopO body (st n) := by
  intro k hk
  induction h : n - k generalizing k with
  | zero => have : k = n := by omega
            rw [this]
  | succ m ih => rw [loopO_inl (hstep k (by omega))]; exact ih (k + 1) (by omega) (by omega)
end
section
variable {S R : Type}
theorem loopO_nat {body : S → Option (S ⊕ R)} (st : Nat → S) (n : Nat) (r : R) (h1 : ∀ k, k < n → body (st k) = some (.inl (st (k + 1)))) (h2 : body (st n) = some (.inr r)) : loopO body (st 0) = some r := by
  rw [loopO_up st n h1 0 (Nat.zero_le _)]
  exact loopO_inr h2
end
theorem ad_one {n : Nat} (h : n < 1000000000) : ad (n : Int) 1 = ((n + 1 : Nat) : Int) := by rw [ad_in (by omega)]; omega
theorem dlt {a b : Nat} (h : a < b) : decide ((a : Int) < (b : Int)) = true := by simp only [decide_eq_true_eq]; omega
theorem dnlt {a b : Nat} (h : ¬ a < b) : decide ((a : Int) < (b : Int)) = false := by simp only [decide_eq_false_iff_not]; omega
@[simp] theorem bind_some' {α β : Type} (x : α) (f : α → Option β) : (some x).bind f = f x := rfl
section
variable {S D X Z : Type} {bd : S → X → Option (S ⊕ D)} {s s' : S} {d : D} {x : X}
end
end Go.Proofs.Ytnmkonlfnpcoiaa
