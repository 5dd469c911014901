import Derived.Test.YtnmkonlfnpcoiaaPan
namespace Go.Proofs.Ytnmkonlfnpcoiaa
open Go.RowKit
section
variable {P : Program} {w : World} {f : FuncId} {fn : Func} {c : Code} {args : Array Value} {n : Nat}
end
end Go.Proofs.Ytnmkonlfnpcoiaa
