import Derived.Test.YthkmkmkcnljmaaaSall
import Derived.Test.YthkmkmkcnljmaaaLib
namespace Go.Proofs.Ythkmkmkcnljmaaa.Pl
abbrev Pt := Int × Int
end Go.Proofs.Ythkmkmkcnljmaaa.Pl
