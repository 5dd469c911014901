import Derived.Test.YtaobbaohelpdgaaP26g
namespace Go.Proofs.Ytaobbaohelpdgaa.Pl
set_option maxRecDepth 4000
theorem cut_mn {α : Type} (l : List α) (k : Nat) : cut l 0 (mn (l.length : Int) (k : Int)) = some (l.take k) := by
  by_cases h : k ≤ l.length
  · rw [show mn (l.length : Int) (k : Int) = (k : Int) by unfold mn; omega]; exact cut_to h
  · rw [show mn (l.length : Int) (k : Int) = (l.length : Int) by unfold mn; omega, cut_to (Nat.le_refl _), List.take_of_length_le (by omega), List.take_of_length_le (by omega)]
theorem fits_ok {n : NetP} (h : checkP n = 0) : Fits n := by
  obtain ⟨h1, h2, h3, h4, h5, _⟩ := (check_iff n).1 h
  have : pointsN n = pointsL n.1 := rfl
  exact ⟨by omega, by omega, by omega, by omega, by omega⟩
end Go.Proofs.Ytaobbaohelpdgaa.Pl
