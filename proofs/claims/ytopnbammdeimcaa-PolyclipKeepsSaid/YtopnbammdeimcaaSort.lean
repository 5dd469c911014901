import Derived.Test.YtopnbammdeimcaaLib
namespace Go.Proofs.Ytopnbammdeimcaa.Pl
section
variable {α : Type} (lt : α → α → Bool)
def insF (x : α) : List α → List α
  | [] => [x]
  | y :: t => if lt x y then x :: y :: t else y :: insF x t
def isort (l : List α) : List α := l.foldl (fun out x => insF lt x out) []
structure Wk (lt : α → α → Bool) : Prop where
  ir : ∀ x : α, lt x x = false
  tr : ∀ {x y z : α}, lt x y = true → lt y z = true → lt x z = true
  nt : ∀ {x y z : α}, lt x y = false → lt y z = false → lt x z = false
variable {lt}
def Inc (lt : α → α → Bool) (l : List α) : Prop := l.Pairwise fun a b => lt b a = false
theorem Inc.get {l : List α} (h : Inc lt l) {i j : Nat} {a b : α} (hij : i < j) (ha : l[i]? = some a) (hb : l[j]? = some b) : lt b a = false := by
  obtain ⟨hi, ha⟩ := List.getElem?_eq_some_iff.1 ha
  obtain ⟨hj, hb⟩ := List.getElem?_eq_some_iff.1 hb
  have := List.pairwise_iff_getElem.1 h i j hi hj hij
  rwa [ha, hb] at this
end
section
variable {α : Type}
variable {lt : α → α → Bool} {ahead : α → α → Option Bool}
structure Runs (lt : α → α → Bool) (l : List α) (r m : Nat) (out : List α) : Prop where
  len : out.length = l.length
  two : ∀ i, i < m → (out.drop (i * (2 * r))).take (2 * r) = isort lt ((l.drop (i * (2 * r))).take (2 * r))
  one : ∀ i, 2 * m ≤ i → (out.drop (i * r)).take r = isort lt ((l.drop (i * r)).take r)
end
end Go.Proofs.Ytopnbammdeimcaa.Pl
