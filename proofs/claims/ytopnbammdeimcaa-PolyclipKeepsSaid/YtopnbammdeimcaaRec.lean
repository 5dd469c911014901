import Derived.Test.YtopnbammdeimcaaPan
namespace Go.Proofs.Ytopnbammdeimcaa
open Go.RowKit
section
variable {P : Program} {w : World} {f : FuncId} {fn : Func} {c : Code} {args : Array Value} {n : Nat}
end
end Go.Proofs.Ytopnbammdeimcaa
