import Derived.Test.YtnmkonlfnpcoiaaPre
import GoSem.Op.String
import GoSem.Core.Utf8
import Derived.Laws.BytesArg
namespace Go.Proofs.Ytnmkonlfnpcoiaa
def cutS (s : ByteArray) (a b : Int) : Option ByteArray := if 0 ≤ a ∧ a ≤ b ∧ b ≤ (s.size : Int) then some (s.extract a.toNat b.toNat) else none
def bsS (l : List Int) : ByteArray := strOfNums l
def eqS (s t : ByteArray) : Bool := s.toList == t.toList
def apF {α : Type} (l : List α) : List α → Option (List α)
  | [] => none
  | x :: m => app l (x :: m)
theorem apF_some {α : Type} {l m r : List α} (h : apF l m = some r) : 0 < m.length ∧ app l m = some r := by
  cases m with
  | nil => cases h
  | cons x m => exact ⟨by simp, h⟩
def tiny {α : Type} (l : List α) : Option Unit := if l.length ≤ 1 then some () else none
theorem tiny_some {α : Type} {l : List α} {u : Unit} (h : tiny l = some u) : l.length ≤ 1 := by
  unfold tiny at h
  split at h
  · assumption
  · cases h
section
variable {S R : Type} {N : S → Nat} {body : S → Nat → Option (S ⊕ R)}
end
end Go.Proofs.Ytnmkonlfnpcoiaa
