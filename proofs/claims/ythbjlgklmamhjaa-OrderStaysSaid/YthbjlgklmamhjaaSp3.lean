/-
  Chapter 04. Said plainly. No program in sight.
-/
import Derived.Test.YthbjlgklmamhjaaSp2
namespace Go.Proofs.Ythbjlgklmamhjaa
set_option linter.unusedVariables false
noncomputable def ref04_Put_b1 (l1 : List Int) (n2 : Int) (x74 : Int) : Option (Int ⊕ (List Int)) :=
  (gd (decide (0 < x74)) (ix l1 (sb x74 1)) 0).bind fun x86 => (some ((decide (0 < x74)) && (decide (n2 < x86)))).bind fun x87 => if x87 then (some (Sum.inl (sb x74 1))) else (Option.map Sum.inr ((cut l1 0 x74).bind fun x94 => (app ([] : List Int) x94).bind fun x96 => (app x96 [n2]).bind fun x101 => (cut l1 x74 (l1.length : Int)).bind fun x107 => (app x101 x107).bind fun x109 => some x109))
noncomputable def ref04_Put_l1 (l1 : List Int) (n2 : Int) (s : Int) : Option (List Int) := loopO (fun s => ref04_Put_b1 l1 n2 s) s
noncomputable def ref04_Put (l1 : List Int) (n2 : Int) : Option (List Int) :=
  ref04_Put_l1 l1 n2 (l1.length : Int)
end Go.Proofs.Ythbjlgklmamhjaa
