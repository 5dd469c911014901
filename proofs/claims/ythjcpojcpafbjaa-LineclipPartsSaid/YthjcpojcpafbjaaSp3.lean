/-
  Chapter 22. Said plainly. No program in sight.
-/
import Derived.Test.YthjcpojcpafbjaaSp2
namespace Go.Proofs.Ythjcpojcpafbjaa
set_option linter.unusedVariables false
noncomputable def law01_Of (p1 : Int × Int) : Option (Int × Int) :=
  some p1
end Go.Proofs.Ythjcpojcpafbjaa
