import Derived.Test.YthkmkmkcnljmaaaPre
import GoSem.Op.String
import GoSem.Core.Utf8
namespace Go.Proofs.Ythkmkmkcnljmaaa
end Go.Proofs.Ythkmkmkcnljmaaa
