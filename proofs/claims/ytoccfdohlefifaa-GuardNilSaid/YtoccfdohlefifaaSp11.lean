import Derived.Test.YtoccfdohlefifaaSp6
import Derived.Test.YtoccfdohlefifaaSp7
import Derived.Test.YtoccfdohlefifaaSp8
namespace Go.Proofs.Ytoccfdohlefifaa
set_option linter.unusedVariables false
end Go.Proofs.Ytoccfdohlefifaa
