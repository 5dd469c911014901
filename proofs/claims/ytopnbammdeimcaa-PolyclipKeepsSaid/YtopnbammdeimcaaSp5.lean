import Derived.Test.YtopnbammdeimcaaSp2
import Derived.Test.YtopnbammdeimcaaSp3
namespace Go.Proofs.Ytopnbammdeimcaa
set_option linter.unusedVariables false
end Go.Proofs.Ytopnbammdeimcaa
