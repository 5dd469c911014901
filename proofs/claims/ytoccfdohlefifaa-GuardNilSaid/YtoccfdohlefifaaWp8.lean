import Derived.Test.YtoccfdohlefifaaWp6
import Derived.Test.YtoccfdohlefifaaSp8
namespace Go.Proofs.Ytoccfdohlefifaa
open Go.RowKit
set_option linter.unusedVariables false
set_option maxRecDepth 10000
end Go.Proofs.Ytoccfdohlefifaa
