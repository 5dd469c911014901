/-
  Chapter 04. Said plainly. No program in sight.
-/
import Derived.Test.YthbjlgklmamhjaaSp2
import Derived.Test.YthbjlgklmamhjaaSp3
import Derived.Test.YthbjlgklmamhjaaSp4
namespace Go.Proofs.Ythbjlgklmamhjaa
set_option linter.unusedVariables false
noncomputable def ref04_Find_b1 (l1 : List Int) (n2 : Int) (i70 : Int) : Option (Int ⊕ (Int × Bool)) :=
  if (decide (i70 < (l1.length : Int))) then ((ix l1 i70).bind fun x90 => if (decide (n2 ≤ x90)) then ((ix l1 i70).bind fun x93 => Option.map Sum.inr (some (i70, (decide (x93 = n2))))) else (some (Sum.inl (ad i70 1)))) else (Option.map Sum.inr (some ((l1.length : Int), false)))
noncomputable def ref04_Find_l1 (l1 : List Int) (n2 : Int) (s : Int) : Option (Int × Bool) := loopO (fun s => ref04_Find_b1 l1 n2 s) s
noncomputable def ref04_Find (l1 : List Int) (n2 : Int) : Option (Int × Bool) :=
  ref04_Find_l1 l1 n2 0
end Go.Proofs.Ythbjlgklmamhjaa
