import Derived.Test.YtnmkonlfnpcoiaaPre
namespace Go.Proofs.Ytnmkonlfnpcoiaa
section
variable {α : Type}
theorem ix_getD {l : List α} {i : Nat} (d : α) (h : i < l.length) : ix l (i : Int) = some (l.getD i d) := by
  rw [ix_nat, List.getElem?_eq_getElem h, List.getD_eq_getElem?_getD, List.getElem?_eq_getElem h]; rfl
theorem getD_take {l : List α} {n j : Nat} {d : α} (h : j < n) : (l.take n).getD j d = l.getD j d := by
  rw [List.getD_eq_getElem?_getD, List.getElem?_take, if_pos h, List.getD_eq_getElem?_getD]
theorem getD_drop {l : List α} {n j : Nat} {d : α} : (l.drop n).getD j d = l.getD (n + j) d := by
  rw [List.getD_eq_getElem?_getD, List.getElem?_drop, List.getD_eq_getElem?_getD]
theorem getD_append_right {l m : List α} {j : Nat} {d : α} (h : l.length ≤ j) : (l ++ m).getD j d = m.getD (j - l.length) d := by
  rw [List.getD_eq_getElem?_getD, List.getElem?_append_right h, List.getD_eq_getElem?_getD]
theorem getD_mem {l : List α} {i : Nat} {d : α} (h : i < l.length) : l.getD i d ∈ l := by
  rw [List.getD_eq_getElem?_getD, List.getElem?_eq_getElem h]; exact List.getElem_mem h
theorem mem_getD {l : List α} {x d : α} (h : x ∈ l) : ∃ i, i < l.length ∧ l.getD i d = x := by
  obtain ⟨i, hi, e⟩ := List.getElem_of_mem h
  exact ⟨i, hi, by rw [List.getD_eq_getElem?_getD, List.getElem?_eq_getElem hi]; exact e⟩
theorem ext_getD {l m : List α} (d : α) (hl : l.length = m.length) (h : ∀ i, i < l.length → l.getD i d = m.getD i d) : l = m := by
  refine List.ext_getElem hl fun i h1 h2 => ?_
  have := h i h1
  rwa [List.getD_eq_getElem?_getD, List.getD_eq_getElem?_getD, List.getElem?_eq_getElem h1, List.getElem?_eq_getElem h2] at this
theorem put_nat {l : List α} {i : Nat} {x : α} (h : i < l.length) : put l (i : Int) x = some (l.set i x) := by
  rw [put_at ⟨by omega, by omega⟩]; rfl
theorem cut_nat {l : List α} {a b : Nat} (h1 : a ≤ b) (h2 : b ≤ l.length) : cut l (a : Int) (b : Int) = some ((l.take b).drop a) := by
  rw [cut_at ⟨by omega, by omega, by omega⟩]; rfl
theorem cut_to {l : List α} {b : Nat} (h2 : b ≤ l.length) : cut l 0 (b : Int) = some (l.take b) := by
  rw [cut_at ⟨by omega, by omega, by omega⟩]; simp
theorem cut_from {l : List α} {a : Nat} (h2 : a ≤ l.length) : cut l (a : Int) (l.length : Int) = some (l.drop a) := by
  rw [cut_at ⟨by omega, by omega, by omega⟩]; simp
theorem app_le {l m : List α} (h : l.length + m.length ≤ 1000000000) : app l m = some (l ++ m) := app_at h
theorem snoc_take {l : List α} {k : Nat} (d : α) (h : k < l.length) : l.take (k + 1) = l.take k ++ [l.getD k d] := by
  rw [List.take_succ_eq_append_getElem h]
  simp [List.getD_eq_getElem?_getD, h]
theorem drop_cons {l : List α} {k : Nat} (d : α) (h : k < l.length) : l.drop k = l.getD k d :: l.drop (k + 1) := by
  rw [List.drop_eq_getElem_cons h]
  simp [List.getD_eq_getElem?_getD, h]
theorem loopO_up {S R : Type} {body : S → Option (S ⊕ R)} (st : Nat → S) (n : Nat) (hstep : ∀ k, k < n → body (st k) = some (.inl (st (k + 1)))) : ∀ k, k ≤ n → loopO body (st k) = loopO body (st n) := by
  intro k hk
  induction h : n - k generalizing k with
  | zero => have : k = n := by omega
            rw [this]
  | succ m ih => rw [loopO_inl (hstep k (by omega))]; exact ih (k + 1) (by omega) (by omega)
end
theorem quK_nat (n : Nat) (h : n < 9223372036854775807) : quK .i64 (n : Int) 2 = some ((n / 2 : Nat) : Int) := by
  unfold quK
  rw [if_neg (by decide)]
  congr 1
  have e : Int.tdiv (n : Int) 2 = ((n / 2 : Nat) : Int) := by
    rw [Int.tdiv_eq_ediv_of_nonneg (by omega)]; omega
  rw [e]
  exact IntWalk.i64_in _ (by omega)
section
variable {S R : Type}
theorem loopO_nat {body : S → Option (S ⊕ R)} (st : Nat → S) (n : Nat) (r : R) (h1 : ∀ k, k < n → body (st k) = some (.inl (st (k + 1)))) (h2 : body (st n) = some (.inr r)) : loopO body (st 0) = some r := by
  rw [loopO_up st n h1 0 (Nat.zero_le _)]
  exact loopO_inr h2
theorem loopO_all {body : S → Option (S ⊕ R)} (st : Nat → S) (n : Nat) (ok : Nat → Prop) [DecidablePred ok] (yes no : R) (h1 : ∀ k, k < n → ok k → body (st k) = some (.inl (st (k + 1)))) (h2 : ∀ k, k < n → ¬ ok k → body (st k) = some (.inr no)) (h3 : body (st n) = some (.inr yes)) :
    loopO body (st 0) = some (if ∀ k, k < n → ok k then yes else no) := by
  have ht : ∀ m, m ≤ n → (∀ k, m ≤ k → k < n → ok k) → loopO body (st m) = some yes := fun m hm h => by
    induction hd : n - m generalizing m with
    | zero => rw [show m = n by omega]; exact loopO_inr h3
    | succ d ih => rw [loopO_inl (h1 m (by omega) (h m (Nat.le_refl _) (by omega)))]; exact ih (m + 1) (by omega) (fun k hk => h k (by omega)) (by omega)
  have hf : ∀ m, m ≤ n → (∃ k, m ≤ k ∧ k < n ∧ ¬ ok k) → loopO body (st m) = some no := fun m hm h => by
    induction hd : n - m generalizing m with
    | zero => obtain ⟨k, h4, h5, _⟩ := h; omega
    | succ d ih =>
      by_cases hk : ok m
      · rw [loopO_inl (h1 m (by omega) hk)]
        obtain ⟨k, h4, h5, h6⟩ := h
        refine ih (m + 1) (by omega) ⟨k, ?_, h5, h6⟩ (by omega)
        by_cases he : k = m
        · subst he; exact (h6 hk).elim
        · omega
      · exact loopO_inr (h2 m (by omega) hk)
  by_cases hh : ∀ k, k < n → ok k
  · rw [if_pos hh]; exact ht 0 (Nat.zero_le _) fun k _ hk => hh k hk
  · rw [if_neg hh]
    refine hf 0 (Nat.zero_le _) (Classical.byContradiction fun hc => hh fun k hk => Classical.byContradiction fun h5 => hc ⟨k, Nat.zero_le _, hk, h5⟩)
end
theorem ad_one {n : Nat} (h : n < 1000000000) : ad (n : Int) 1 = ((n + 1 : Nat) : Int) := by rw [ad_in (by omega)]; omega
theorem sb_one {n : Nat} (h : n < 1000000000) (h0 : 0 < n) : sb (n : Int) 1 = ((n - 1 : Nat) : Int) := by rw [sb_in (by omega)]; omega
theorem dlt {a b : Nat} (h : a < b) : decide ((a : Int) < (b : Int)) = true := by simp only [decide_eq_true_eq]; omega
theorem dnlt {a b : Nat} (h : ¬ a < b) : decide ((a : Int) < (b : Int)) = false := by simp only [decide_eq_false_iff_not]; omega
@[simp] theorem bind_some' {α β : Type} (x : α) (f : α → Option β) : (some x).bind f = f x := rfl
section
variable {S D X Z : Type} {bd : S → X → Option (S ⊕ D)} {s s' : S} {d : D} {x : X}
theorem rngO_inl {k1 : S → Option Z} {k2 : D → Option Z} : rngO (some (.inl s)) k1 k2 = k1 s := rfl
theorem rngO_inr {k1 : S → Option Z} {k2 : D → Option Z} : rngO (some (.inr d)) k1 k2 = k2 d := rfl
end
end Go.Proofs.Ytnmkonlfnpcoiaa
