import Derived.Test.YtnmkonlfnpcoiaaSp6
namespace Go.Proofs.Ytnmkonlfnpcoiaa
set_option linter.unusedVariables false
end Go.Proofs.Ytnmkonlfnpcoiaa
