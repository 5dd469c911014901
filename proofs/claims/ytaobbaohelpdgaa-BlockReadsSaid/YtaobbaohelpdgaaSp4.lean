import Derived.Test.YtaobbaohelpdgaaSp3
namespace Go.Proofs.Ytaobbaohelpdgaa
set_option linter.unusedVariables false
end Go.Proofs.Ytaobbaohelpdgaa
