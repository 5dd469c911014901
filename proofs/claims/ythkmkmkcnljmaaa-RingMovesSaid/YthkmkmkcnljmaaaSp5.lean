/-
  Chapter 03. Said plainly. No program in sight.
-/
import Derived.Test.YthkmkmkcnljmaaaSp4
namespace Go.Proofs.Ythkmkmkcnljmaaa
set_option linter.unusedVariables false
noncomputable def slices_Clone_api_Point_api_Point (s1 : List (Int × Int)) : Option (List (Int × Int)) :=
  (app ([] : List (Int × Int)) s1).bind fun x28 => some x28
end Go.Proofs.Ythkmkmkcnljmaaa
