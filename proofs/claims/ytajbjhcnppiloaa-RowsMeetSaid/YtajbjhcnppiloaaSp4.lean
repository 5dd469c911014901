/-
  Chapter 06. Said plainly. No program in sight.
-/
import Derived.Test.YtajbjhcnppiloaaSp3
namespace Go.Proofs.Ytajbjhcnppiloaa
set_option linter.unusedVariables false
noncomputable def ref01_Sign (n1 : Int) : Option (Int) :=
  if (decide (0 < n1)) then (some 1) else (if (decide (n1 < 0)) then (some (-1)) else (some 0))
noncomputable def ref04_Compare_b1 (x1 : List Int) (b2 : List Int) (i100 : Int) : Option (Int ⊕ Int) :=
  (some ((decide (i100 < (x1.length : Int))) && (decide (i100 < (b2.length : Int))))).bind fun x123 => if x123 then ((ix x1 i100).bind fun x129 => (ix b2 i100).bind fun x130 => if (decide (x129 < x130)) then (Option.map Sum.inr (some (-1))) else ((ix x1 i100).bind fun x134 => (ix b2 i100).bind fun x135 => if (decide (x135 < x134)) then (Option.map Sum.inr (some 1)) else (some (Sum.inl (ad i100 1))))) else (Option.map Sum.inr ((some (sb (x1.length : Int) (b2.length : Int))).bind fun x140 => (ref01_Sign x140).bind fun r141 => some r141))
noncomputable def ref04_Compare_l1 (x1 : List Int) (b2 : List Int) (s : Int) : Option (Int) := loopO (fun s => ref04_Compare_b1 x1 b2 s) s
noncomputable def ref04_Compare (x1 : List Int) (b2 : List Int) : Option (Int) :=
  ref04_Compare_l1 x1 b2 0
noncomputable def law04_Ints (x1 : List Int) (b2 : List Int) : Option (Bool) :=
  (ref04_Compare x1 b2).bind fun r15 => some (decide (r15 = 0))
end Go.Proofs.Ytajbjhcnppiloaa
