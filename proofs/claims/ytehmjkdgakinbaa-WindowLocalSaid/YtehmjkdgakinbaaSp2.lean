/-
  Chapter 20. Said plainly. No program in sight.
-/
import Derived.Test.YtehmjkdgakinbaaSp1
namespace Go.Proofs.Ytehmjkdgakinbaa
set_option linter.unusedVariables false
noncomputable def window_Right (t1 : Int × Int × Int) : Option (Bool) :=
  (window_count t1.1).bind fun r22 => (some ((decide (0 ≤ t1.2.1)) && (decide (t1.2.1 < r22)))).bind fun x24 => (some ((x24 && (decide (0 ≤ t1.2.2))) && (decide (t1.2.2 < r22)))).bind fun x25 => some x25
noncomputable def window_Window (t1 : Int × Int × Int) (buffer2 : Int) : Option (((Int × Int) × (Int × Int)) × Bool) :=
  (window_Right t1).bind fun r40 => (gd (!(!r40)) (window_buffered buffer2) false).bind fun r41 => if ((!r40) || (!r41)) then (some (((0, 0), (0, 0)), false)) else ((some (ad (sb (ml 4096 t1.2.1) buffer2) (ad 4096 (ml 2 buffer2)))).bind fun x53 => (some (ad (sb (ml 4096 t1.2.2) buffer2) (ad 4096 (ml 2 buffer2)))).bind fun x54 => some (((sb (ml 4096 t1.2.1) buffer2, sb (ml 4096 t1.2.2) buffer2), (x53, x54)), true))
noncomputable def law20_known : Option (Bool) :=
  (window_Window (1, 1, 0) 100).bind fun r39 => (window_Of 1 (4096, 0)).bind fun r44 => (some (r39.2 && (decide (r39.1.1 = (3996, (-100)))))).bind fun x53 => (some (x53 && (decide (r39.1.2 = (8292, 4196))))).bind fun x54 => (some ((x54 && r44.2) && (decide (r44.1 = (1, 1, 0))))).bind fun x55 => (gd x55 (window_Shown 1 0 ((4096, 5), (4096, 5))) []).bind fun r56 => (some (x55 && (decide ((r56.length : Int) = 0)))).bind fun x59 => (gd x59 (window_Shown 1 1 ((4096, 5), (4096, 5))) []).bind fun r60 => (some (x59 && (decide ((r60.length : Int) = 2)))).bind fun x63 => some x63
end Go.Proofs.Ytehmjkdgakinbaa
