import Derived.Test.YtnmkonlfnpcoiaaLib
namespace Go.Proofs.Ytnmkonlfnpcoiaa.Pl
section
variable {α : Type} (lt : α → α → Bool)
def insF (x : α) : List α → List α
  | [] => [x]
  | y :: t => if lt x y then x :: y :: t else y :: insF x t
def isort (l : List α) : List α := l.foldl (fun out x => insF lt x out) []
structure Wk (lt : α → α → Bool) : Prop where
  ir : ∀ x : α, lt x x = false
  tr : ∀ {x y z : α}, lt x y = true → lt y z = true → lt x z = true
  nt : ∀ {x y z : α}, lt x y = false → lt y z = false → lt x z = false
variable {lt}
theorem isort_snoc (l : List α) (x : α) : isort lt (l ++ [x]) = insF lt x (isort lt l) := by
  unfold isort
  rw [List.foldl_append]; rfl
theorem insF_perm (x : α) : ∀ l : List α, (insF lt x l).Perm (x :: l)
  | [] => List.Perm.refl _
  | y :: t => by
    unfold insF
    split
    · exact List.Perm.refl _
    · exact ((insF_perm x t).cons y).trans (List.Perm.swap x y t)
theorem foldl_perm : ∀ (l B : List α), (l.foldl (fun out x => insF lt x out) B).Perm (l ++ B)
  | [], B => List.Perm.refl _
  | x :: l, B => by
    rw [List.foldl_cons]
    refine (foldl_perm l _).trans ?_
    refine (((insF_perm x B).append_left l)).trans ?_
    exact List.perm_middle
theorem isort_perm (l : List α) : (isort lt l).Perm l := by
  have := foldl_perm (lt := lt) l []
  rwa [List.append_nil] at this
theorem isort_len (l : List α) : (isort lt l).length = l.length := (isort_perm l).length_eq
def Inc (lt : α → α → Bool) (l : List α) : Prop := l.Pairwise fun a b => lt b a = false
theorem insF_inc (h : Wk lt) (x : α) : ∀ l : List α, Inc lt l → Inc lt (insF lt x l)
  | [], _ => List.pairwise_singleton _ _
  | y :: t, hl => by
    have hy := List.pairwise_cons.1 hl
    unfold insF
    split
    · rename_i hx
      refine List.pairwise_cons.2 ⟨fun z hz => ?_, hl⟩
      cases hzx : lt z x with
      | false => rfl
      | true =>
        have h1 := h.tr hzx hx
        rcases List.mem_cons.1 hz with rfl | hz
        · rw [h.ir] at h1; cases h1
        · rw [hy.1 z hz] at h1; cases h1
    · rename_i hx
      refine List.pairwise_cons.2 ⟨fun z hz => ?_, insF_inc h x t hy.2⟩
      rcases List.mem_cons.1 ((insF_perm x t).mem_iff.1 hz) with rfl | hz
      · simpa using hx
      · exact hy.1 z hz
theorem foldl_inc (h : Wk lt) : ∀ (l B : List α), Inc lt B → Inc lt (l.foldl (fun out x => insF lt x out) B)
  | [], B, hB => hB
  | x :: l, B, hB => foldl_inc h l _ (insF_inc h x B hB)
theorem isort_inc (h : Wk lt) (l : List α) : Inc lt (isort lt l) := foldl_inc h l [] List.Pairwise.nil
theorem Inc.get {l : List α} (h : Inc lt l) {i j : Nat} {a b : α} (hij : i < j) (ha : l[i]? = some a) (hb : l[j]? = some b) : lt b a = false := by
  obtain ⟨hi, ha⟩ := List.getElem?_eq_some_iff.1 ha
  obtain ⟨hj, hb⟩ := List.getElem?_eq_some_iff.1 hb
  have := List.pairwise_iff_getElem.1 h i j hi hj hij
  rwa [ha, hb] at this
end
section
variable {α : Type}
variable {lt : α → α → Bool} {ahead : α → α → Option Bool}
structure Runs (lt : α → α → Bool) (l : List α) (r m : Nat) (out : List α) : Prop where
  len : out.length = l.length
  two : ∀ i, i < m → (out.drop (i * (2 * r))).take (2 * r) = isort lt ((l.drop (i * (2 * r))).take (2 * r))
  one : ∀ i, 2 * m ≤ i → (out.drop (i * r)).take r = isort lt ((l.drop (i * r)).take r)
end
end Go.Proofs.Ytnmkonlfnpcoiaa.Pl
