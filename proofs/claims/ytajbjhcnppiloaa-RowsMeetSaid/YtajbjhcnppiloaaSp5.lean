/-
  Chapter 06. Said plainly. No program in sight.
-/
import Derived.Test.YtajbjhcnppiloaaSp3
namespace Go.Proofs.Ytajbjhcnppiloaa
set_option linter.unusedVariables false
noncomputable def ref01_May (p1 : Int × Int) : Option (Bool) :=
  (some ((decide ((-16777216) ≤ p1.1)) && (decide (p1.1 ≤ 16777216)))).bind fun x20 => (some (x20 && (decide ((-16777216) ≤ p1.2)))).bind fun x21 => some (x21 && (decide (p1.2 ≤ 16777216)))
noncomputable def ref06_Right (b1 : (Int × Int) × (Int × Int)) : Option (Bool) :=
  (ref01_May b1.1).bind fun r21 => (gd r21 (ref01_May b1.2) false).bind fun r22 => (some ((r21 && r22) && (decide (b1.1.1 ≤ b1.2.1)))).bind fun x23 => some (x23 && (decide (b1.1.2 ≤ b1.2.2)))
noncomputable def ref06_Meet (x1 : (Int × Int) × (Int × Int)) (b2 : (Int × Int) × (Int × Int)) : Option (Bool) :=
  (ref06_Right x1).bind fun r32 => (gd (!(!r32)) (ref06_Right b2) false).bind fun r33 => if ((!r32) || (!r33)) then (some false) else ((some ((decide ((mx x1.1.1 b2.1.1) ≤ (mn x1.2.1 b2.2.1))) && (decide ((mx x1.1.2 b2.1.2) ≤ (mn x1.2.2 b2.2.2))))).bind fun x39 => some x39)
noncomputable def law01_Of (p1 : Int × Int) : Option (Int × Int) :=
  some p1
noncomputable def law06_of (b1 : (Int × Int) × (Int × Int)) : Option ((Int × Int) × (Int × Int)) :=
  (law01_Of b1.1).bind fun r29 => (law01_Of b1.2).bind fun r30 => some (r29, r30)
end Go.Proofs.Ytajbjhcnppiloaa
