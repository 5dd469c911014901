import Derived.Test.YthkmkmkcnljmaaaSp6
namespace Go.Proofs.Ythkmkmkcnljmaaa
set_option linter.unusedVariables false
end Go.Proofs.Ythkmkmkcnljmaaa
