import Derived.Test.YtnmkonlfnpcoiaaLib
namespace Go.Proofs.Ytnmkonlfnpcoiaa.Pl
section
variable {α : Type} (lt : α → α → Bool)
def insF (x : α) : List α → List α
  | [] => [x]
  | y :: t => if lt x y then x :: y :: t else y :: insF x t
def isort (l : List α) : List α := l.foldl (fun out x => insF lt x out) []
structure Wk (lt : α → α → Bool) : Prop where
  ir : ∀ x : α, lt x x = false
  tr : ∀ {x y z : α}, lt x y = true → lt y z = true → lt x z = true
  nt : ∀ {x y z : α}, lt x y = false → lt y z = false → lt x z = false
variable {lt}
theorem isort_snoc (l : List α) (x : α) : isort lt (l ++ [x]) = insF lt x (isort lt l) := by
  unfold isort
  rw [List.foldl_append]; rfl
theorem insF_perm (x : α) : ∀ l : List α, (insF lt x l).Perm (x :: l)
  | [] => List.Perm.refl _
  | y :: t => by
    unfold insF
    split
    · exact List.Perm.refl _
    · exact ((insF_perm x t).cons y).trans (List.Perm.swap x y t)
theorem foldl_perm : ∀ (l B : List α), (l.foldl (fun out x => insF lt x out) B).Perm (l ++ B)
  | [], B => List.Perm.refl _
  | x :: l, B => by
    rw [List.foldl_cons]
    refine (foldl_perm l _).trans ?_
    refine (((insF_perm x B).append_left l)).trans ?_
    exact List.perm_middle
theorem isort_perm (l : List α) : (isort lt l).Perm l := by
  have := foldl_perm (lt := lt) l []
  rwa [List.append_nil] at this
theorem isort_len (l : List α) : (isort lt l).length = l.length := (isort_perm l).length_eq
def Inc (lt : α → α → Bool) (l : List α) : Prop := l.Pairwise fun a b => lt b a = false
theorem insF_inc (h : Wk lt) (x : α) : ∀ l : List α, Inc lt l → Inc lt (insF lt x l)
  | [], _ => List.pairwise_singleton _ _
  | y :: t, hl => by
    have hy := List.pairwise_cons.1 hl
    unfold insF
    split
    · rename_i hx
      refine List.pairwise_cons.2 ⟨fun z hz => ?_, hl⟩
      cases hzx : lt z x with
      | false => rfl
      | true =>
        have h1 := h.tr hzx hx
        rcases List.mem_cons.1 hz with rfl | hz
        · rw [h.ir] at h1; cases h1
        · rw [hy.1 z hz] at h1; cases h1
    · rename_i hx
      refine List.pairwise_cons.2 ⟨fun z hz => ?_, insF_inc h x t hy.2⟩
      rcases List.mem_cons.1 ((insF_perm x t).mem_iff.1 hz) with rfl | hz
      · simpa using hx
      · exact hy.1 z hz
theorem foldl_inc (h : Wk lt) : ∀ (l B : List α), Inc lt B → Inc lt (l.foldl (fun out x => insF lt x out) B)
  | [], B, hB => hB
  | x :: l, B, hB => foldl_inc h l _ (insF_inc h x B hB)
theorem isort_inc (h : Wk lt) (l : List α) : Inc lt (isort lt l) := foldl_inc h l [] List.Pairwise.nil
theorem insF_at (x : α) : ∀ (l : List α) (p : Nat), p ≤ l.length → (∀ (j : Nat) y, j < p → l[j]? = some y → lt x y = false) → (∀ (j : Nat) y, p ≤ j → l[j]? = some y → lt x y = true) → insF lt x l = l.take p ++ x :: l.drop p
  | [], p, hp, _, _ => by
    have : p = 0 := by simpa using hp
    subst this; rfl
  | y :: t, 0, _, _, h2 => by
    have := h2 0 y (Nat.zero_le _) rfl
    rw [insF, if_pos this]; rfl
  | y :: t, p + 1, hp, h1, h2 => by
    have := h1 0 y (Nat.succ_pos _) rfl
    rw [insF, this, if_neg (by decide), insF_at x t p (by simpa using hp) (fun j z hj hz => h1 (j + 1) z (by omega) (by simpa using hz)) (fun j z hj hz => h2 (j + 1) z (by omega) (by simpa using hz))]
    rfl
theorem Inc.get {l : List α} (h : Inc lt l) {i j : Nat} {a b : α} (hij : i < j) (ha : l[i]? = some a) (hb : l[j]? = some b) : lt b a = false := by
  obtain ⟨hi, ha⟩ := List.getElem?_eq_some_iff.1 ha
  obtain ⟨hj, hb⟩ := List.getElem?_eq_some_iff.1 hb
  have := List.pairwise_iff_getElem.1 h i j hi hj hij
  rwa [ha, hb] at this
theorem snoc_rec (P : List α → Prop) (h0 : P []) (h1 : ∀ l x, P l → P (l ++ [x])) : ∀ l, P l := by
  intro l
  have key : ∀ n : Nat, ∀ l : List α, l.length = n → P l := by
    intro n
    induction n with
    | zero => intro l h; rw [List.length_eq_zero_iff.1 h]; exact h0
    | succ n ih =>
      intro l h
      have hne : l ≠ [] := fun e => by subst e; cases h
      rw [← List.dropLast_concat_getLast hne]
      exact h1 _ _ (ih _ (by rw [List.length_dropLast, h]; rfl))
  exact key _ l rfl
theorem isort_of_inc (h : Wk lt) : ∀ l : List α, Inc lt l → isort lt l = l := by
  refine snoc_rec (fun l => Inc lt l → isort lt l = l) (fun _ => rfl) (fun l x ih hl => ?_)
  have hl' := List.pairwise_append.1 hl
  rw [isort_snoc, ih hl'.1, insF_at x l l.length (Nat.le_refl _) (fun j y hj hy => hl'.2.2 y (List.mem_of_getElem? hy) x (by simp)) (fun j y hj hy => by rw [List.getElem?_eq_none hj] at hy; cases hy)]
  simp
end
section
variable {α : Type}
variable {lt : α → α → Bool} {ahead : α → α → Option Bool}
structure Runs (lt : α → α → Bool) (l : List α) (r m : Nat) (out : List α) : Prop where
  len : out.length = l.length
  two : ∀ i, i < m → (out.drop (i * (2 * r))).take (2 * r) = isort lt ((l.drop (i * (2 * r))).take (2 * r))
  one : ∀ i, 2 * m ≤ i → (out.drop (i * r)).take r = isort lt ((l.drop (i * r)).take r)
end
end Go.Proofs.Ytnmkonlfnpcoiaa.Pl
