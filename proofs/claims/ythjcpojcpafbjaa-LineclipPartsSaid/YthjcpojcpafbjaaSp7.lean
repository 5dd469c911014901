/-
  Chapter 22. Said plainly. No program in sight.
-/
import Derived.Test.YthjcpojcpafbjaaSp2
import Derived.Test.YthjcpojcpafbjaaSp3
import Derived.Test.YthjcpojcpafbjaaSp4
namespace Go.Proofs.Ythjcpojcpafbjaa
set_option linter.unusedVariables false
noncomputable def ref01_May (p1 : Int × Int) : Option (Bool) :=
  (some ((decide ((-16777216) ≤ p1.1)) && (decide (p1.1 ≤ 16777216)))).bind fun x20 => (some (x20 && (decide ((-16777216) ≤ p1.2)))).bind fun x21 => some (x21 && (decide (p1.2 ≤ 16777216)))
end Go.Proofs.Ythjcpojcpafbjaa
