/-
  Chapter 20. Said plainly. No program in sight.
-/
import Derived.Test.YtehmjkdgakinbaaSp2
namespace Go.Proofs.Ytehmjkdgakinbaa
set_option linter.unusedVariables false
noncomputable def law01_Of (p1 : Int × Int) : Option (Int × Int) :=
  some p1
end Go.Proofs.Ytehmjkdgakinbaa
