import Derived.Test.YtaobbaohelpdgaaSp3
import Derived.Test.YtaobbaohelpdgaaSp4
import Derived.Test.YtaobbaohelpdgaaSp5
namespace Go.Proofs.Ytaobbaohelpdgaa
set_option linter.unusedVariables false
end Go.Proofs.Ytaobbaohelpdgaa
