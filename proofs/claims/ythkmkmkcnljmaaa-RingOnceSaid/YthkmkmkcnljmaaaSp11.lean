import Derived.Test.YthkmkmkcnljmaaaSp2
import Derived.Test.YthkmkmkcnljmaaaSp3
import Derived.Test.YthkmkmkcnljmaaaSp4
import Derived.Test.YthkmkmkcnljmaaaSp5
namespace Go.Proofs.Ythkmkmkcnljmaaa
set_option linter.unusedVariables false
end Go.Proofs.Ythkmkmkcnljmaaa
