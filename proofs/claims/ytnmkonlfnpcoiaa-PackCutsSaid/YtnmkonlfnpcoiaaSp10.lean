import Derived.Test.YtnmkonlfnpcoiaaSp6
import Derived.Test.YtnmkonlfnpcoiaaSp7
import Derived.Test.YtnmkonlfnpcoiaaSp8
namespace Go.Proofs.Ytnmkonlfnpcoiaa
set_option linter.unusedVariables false
end Go.Proofs.Ytnmkonlfnpcoiaa
