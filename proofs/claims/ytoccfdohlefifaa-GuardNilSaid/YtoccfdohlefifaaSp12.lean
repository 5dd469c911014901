import Derived.Test.YtoccfdohlefifaaSp11
namespace Go.Proofs.Ytoccfdohlefifaa
set_option linter.unusedVariables false
end Go.Proofs.Ytoccfdohlefifaa
