/-
  Chapter 20. Said plainly. No program in sight.
-/
import Derived.Test.YtehmjkdgakinbaaSp2
namespace Go.Proofs.Ytehmjkdgakinbaa
set_option linter.unusedVariables false
noncomputable def window_Place (t1 : Int × Int × Int) : Option (((Int × Int) × (Int × Int)) × Bool) :=
  (window_Window t1 0).bind fun r26 => some (r26.1, r26.2)
end Go.Proofs.Ytehmjkdgakinbaa
