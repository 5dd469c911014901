import Derived.Test.YthkmkmkcnljmaaaSp11
namespace Go.Proofs.Ythkmkmkcnljmaaa
set_option linter.unusedVariables false
end Go.Proofs.Ythkmkmkcnljmaaa
