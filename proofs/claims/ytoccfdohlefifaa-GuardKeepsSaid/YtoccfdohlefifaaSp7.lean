import Derived.Test.YtoccfdohlefifaaSp4
import Derived.Test.YtoccfdohlefifaaSp5
namespace Go.Proofs.Ytoccfdohlefifaa
set_option linter.unusedVariables false
end Go.Proofs.Ytoccfdohlefifaa
