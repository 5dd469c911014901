import Derived.Test.YtnmkonlfnpcoiaaPre
import GoSem.Op.String
import GoSem.Core.Utf8
import Derived.Laws.BytesArg
import Derived.Lib.BitFns
namespace Go.Proofs.Ytnmkonlfnpcoiaa
def ixS (s : ByteArray) (i : Int) : Option Int := if 0 ≤ i then (s[i.toNat]?).map fun b => (b.toNat : Int) else none
def cutS (s : ByteArray) (a b : Int) : Option ByteArray := if 0 ≤ a ∧ a ≤ b ∧ b ≤ (s.size : Int) then some (s.extract a.toNat b.toNat) else none
def bsS (l : List Int) : ByteArray := strOfNums l
def eqS (s t : ByteArray) : Bool := s.toList == t.toList
def apF {α : Type} (l : List α) : List α → Option (List α)
  | [] => none
  | x :: m => app l (x :: m)
theorem apF_some {α : Type} {l m r : List α} (h : apF l m = some r) : 0 < m.length ∧ app l m = some r := by
  cases m with
  | nil => cases h
  | cons x m => exact ⟨by simp, h⟩
def inA (n : Nat) (i : Int) : Option Int := if 0 ≤ i ∧ i < n then some i else none
def iA (i : Int) (j : Nat) (v old : Int) : Int := if i = j then v else old
def sB (s : ByteArray) : List Int := s.data.toList.map fun u => (u.toNat : Int)
def swO {α : Type} (l : List α) (i j : Int) : Option (List α) := (ix l i).bind fun x => (ix l j).bind fun y => (put l i y).bind fun m => put m j x
def srtO {α : Type} (pd : List α → Int → Int → Int → Option (List α)) (l : List α) : Option (List α) := if l.length ≤ 1 then some l else if l.length < 4611686018427387904 then (pd l 0 l.length (Go.Lib.bitLen l.length)).bind fun r => if r.length = l.length then some r else none else none
theorem srtO_cases {α : Type} {pd : List α → Int → Int → Int → Option (List α)} {l l' : List α} (h : srtO pd l = some l') : l.length ≤ 1 ∧ l = l' ∨ 2 ≤ l.length ∧ l.length < 4611686018427387904 ∧ pd l 0 l.length (Go.Lib.bitLen l.length) = some l' ∧ l'.length = l.length := by
  unfold srtO at h
  split at h
  · injection h with h; exact .inl ⟨by assumption, h⟩
  · split at h
    · cases hp : pd l 0 l.length (Go.Lib.bitLen l.length) with
      | none => rw [hp] at h; cases h
      | some r =>
        rw [hp] at h
        change (if r.length = l.length then some r else none) = some l' at h
        split at h
        · injection h with h; subst h; exact .inr ⟨by omega, by assumption, rfl, by assumption⟩
        · cases h
    · cases h
theorem srtO_len {α : Type} {pd : List α → Int → Int → Int → Option (List α)} {l l' : List α} (h : srtO pd l = some l') : l'.length = l.length := by
  rcases srtO_cases h with ⟨_, rfl⟩ | ⟨_, _, _, h⟩
  · rfl
  · exact h
section
variable {S R : Type} {N : S → Nat} {body : S → Nat → Option (S ⊕ R)}
end
end Go.Proofs.Ytnmkonlfnpcoiaa
