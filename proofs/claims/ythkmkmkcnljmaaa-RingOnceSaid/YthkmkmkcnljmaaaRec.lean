import Derived.Test.YthkmkmkcnljmaaaPan
namespace Go.Proofs.Ythkmkmkcnljmaaa
open Go.RowKit
section
variable {P : Program} {w : World} {f : FuncId} {fn : Func} {c : Code} {args : Array Value} {n : Nat}
end
end Go.Proofs.Ythkmkmkcnljmaaa
