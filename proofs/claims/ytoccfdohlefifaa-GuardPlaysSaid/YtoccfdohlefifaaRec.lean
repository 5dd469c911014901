import Derived.Test.YtoccfdohlefifaaPan
namespace Go.Proofs.Ytoccfdohlefifaa
open Go.RowKit
section
variable {P : Program} {w : World} {f : FuncId} {fn : Func} {c : Code} {args : Array Value} {n : Nat}
end
end Go.Proofs.Ytoccfdohlefifaa
