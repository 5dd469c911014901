import Derived.Test.YtaobbaohelpdgaaSp8
namespace Go.Proofs.Ytaobbaohelpdgaa
set_option linter.unusedVariables false
end Go.Proofs.Ytaobbaohelpdgaa
