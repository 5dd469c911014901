import Derived.Test.YtaobbaohelpdgaaSp6
namespace Go.Proofs.Ytaobbaohelpdgaa
set_option linter.unusedVariables false
end Go.Proofs.Ytaobbaohelpdgaa
