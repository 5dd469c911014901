/-
  Chapter 20. Said plainly. No program in sight.
-/
import Derived.Test.YtehmjkdgakinbaaSp2
import Derived.Test.YtehmjkdgakinbaaSp4
namespace Go.Proofs.Ytehmjkdgakinbaa
set_option linter.unusedVariables false
noncomputable def window_Parent (t1 : Int × Int × Int) : Option ((Int × Int × Int) × Bool) :=
  (gd (!(decide (t1 = (0, 0, 0)))) (window_Right t1) false).bind fun r35 => (some ((decide (t1 = (0, 0, 0))) || (!r35))).bind fun x36 => if x36 then (some ((0, 0, 0), false)) else ((quK .i64 t1.2.1 2).bind fun x43 => (quK .i64 t1.2.2 2).bind fun x44 => some ((sb t1.1 1, x43, x44), true))
end Go.Proofs.Ytehmjkdgakinbaa
