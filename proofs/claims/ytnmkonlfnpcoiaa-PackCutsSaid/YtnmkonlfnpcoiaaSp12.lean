import Derived.Test.YtnmkonlfnpcoiaaSp11
namespace Go.Proofs.Ytnmkonlfnpcoiaa
set_option linter.unusedVariables false
end Go.Proofs.Ytnmkonlfnpcoiaa
