import Derived.Test.YtopnbammdeimcaaSp2
namespace Go.Proofs.Ytopnbammdeimcaa
set_option linter.unusedVariables false
end Go.Proofs.Ytopnbammdeimcaa
