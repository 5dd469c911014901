/-
  Chapter 03. Said plainly. No program in sight.
-/
import Derived.Test.YthkmkmkcnljmaaaSp4
import Derived.Test.YthkmkmkcnljmaaaSp5
import Derived.Test.YthkmkmkcnljmaaaSp7
namespace Go.Proofs.Ythkmkmkcnljmaaa
set_option linter.unusedVariables false
noncomputable def law03_RingSigns (l1 : List (Int × Int)) (p2 : Int × Int) (x3 : Int × Int) (b4 : Int × Int) : Option (Bool) :=
  (law03_Cut l1).bind fun r60 => (ring_Turned r60).bind fun r65 => (ring_First r60).bind fun r68 => (ring_Winding r60 p2).bind fun r72 => (ring_Winding r65 p2).bind fun r74 => (ring_Winding r68 p2).bind fun r76 => (ring_Beside r60 x3 b4).bind fun r78 => (ring_Beside r65 x3 b4).bind fun r80 => (law03_known).bind fun r82 => (gd r82 (ring_Area r65) 0).bind fun r83 => (gd r82 (ring_Area r60) 0).bind fun r84 => (gd (r82 && (decide (r83 = (ng r84)))) (ring_Area r68) 0).bind fun r85 => (gd (r82 && (decide (r83 = (ng r84)))) (ring_Area r60) 0).bind fun r86 => (some ((r82 && (decide (r83 = (ng r84)))) && (decide (r85 = r86)))).bind fun x87 => (some (x87 && (decide (r74.1 = (ng r72.1))))).bind fun x88 => (some ((x88 && (decide (r76.1 = r72.1))) && (r74.2 == r72.2))).bind fun x89 => (some ((x89 && (r76.2 == r72.2)) && (decide (r80.1 = (ng r78.1))))).bind fun x90 => (gd (x90 && (r78.2 == r80.2)) (ring_Simple r65) false).bind fun r91 => (gd (x90 && (r78.2 == r80.2)) (ring_Simple r60) false).bind fun r92 => (some ((x90 && (r78.2 == r80.2)) && (r91 == r92))).bind fun x93 => some x93
end Go.Proofs.Ythkmkmkcnljmaaa
