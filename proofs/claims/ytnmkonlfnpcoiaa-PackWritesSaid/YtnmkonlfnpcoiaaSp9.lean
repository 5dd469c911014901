import Derived.Test.YtnmkonlfnpcoiaaSp8
namespace Go.Proofs.Ytnmkonlfnpcoiaa
set_option linter.unusedVariables false
end Go.Proofs.Ytnmkonlfnpcoiaa
