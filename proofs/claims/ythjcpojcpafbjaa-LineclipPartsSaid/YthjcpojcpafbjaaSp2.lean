/-
  Chapter 22. Said plainly. No program in sight.
-/
import Derived.Test.YthjcpojcpafbjaaSp1
namespace Go.Proofs.Ythjcpojcpafbjaa
set_option linter.unusedVariables false
noncomputable def law22_known : Option (Bool) :=
  (lineclip_Parts [(0, 0), (2, 0), (4, 2), (9, 2), (4, 4), (2, 4)] ((0, 0), (5, 5))).bind fun r35 => (gd (decide ((r35.length : Int) = 2)) (ix r35 0) []).bind fun x40 => (some ((decide ((r35.length : Int) = 2)) && (decide ((x40.length : Int) = 2)))).bind fun x42 => (gd x42 (ix r35 0) []).bind fun x43 => (gd x42 (ix x43 0) (0, 0)).bind fun x45 => (gd (x42 && (decide (x45 = (2, 0)))) (ix r35 1) []).bind fun x46 => (gd (x42 && (decide (x45 = (2, 0)))) (ix x46 1) (0, 0)).bind fun x48 => (some ((x42 && (decide (x45 = (2, 0)))) && (decide (x48 = (2, 4))))).bind fun x49 => some x49
end Go.Proofs.Ythjcpojcpafbjaa
