import Derived.Test.YtoccfdohlefifaaSp6
import Derived.Test.YtoccfdohlefifaaSp7
namespace Go.Proofs.Ytoccfdohlefifaa
set_option linter.unusedVariables false
end Go.Proofs.Ytoccfdohlefifaa
