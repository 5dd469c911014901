/-
  Chapter 03. Said plainly. No program in sight.
-/
import Derived.Test.YthkmkmkcnljmaaaSp2
namespace Go.Proofs.Ythkmkmkcnljmaaa
set_option linter.unusedVariables false
noncomputable def exact_between (x1 : Int × Int) (b2 : Int × Int) (p3 : Int × Int) : Option (Bool) :=
  (exact_within p3.1 (mn x1.1 b2.1) (mx x1.1 b2.1)).bind fun r28 => (gd r28 (exact_within p3.2 (mn x1.2 b2.2) (mx x1.2 b2.2)) false).bind fun r29 => some (r28 && r29)
noncomputable def exact_On (x1 : Int × Int) (b2 : Int × Int) (p3 : Int × Int) : Option (Bool) :=
  (exact_Right [x1, b2, p3]).bind fun r33 => (gd r33 (exact_Turn x1 b2 p3) 0).bind fun r34 => (gd (r33 && (decide (r34 = 0))) (exact_between x1 b2 p3) false).bind fun r35 => some ((r33 && (decide (r34 = 0))) && r35)
noncomputable def ring_Winding_k1 (n630 : Int) : Option (Int ⊕ Unit) :=
  some (Sum.inl n630)
noncomputable def ring_Winding_b2 (p2 : Int × Int) (n457 : Int) (x555 : (Int × Int) × (Int × Int)) : Option (Int ⊕ Unit) :=
  (exact_Turn x555.1 x555.2 p2).bind fun r609 => (exact_On x555.1 x555.2 p2).bind fun r633 => if r633 then (some (Sum.inr ())) else ((some ((decide (x555.1.2 ≤ p2.2)) && (decide (p2.2 < x555.2.2)))).bind fun x640 => if (x640 && (decide (0 < r609))) then (ring_Winding_k1 (ad n457 1)) else ((some ((decide (x555.2.2 ≤ p2.2)) && (decide (p2.2 < x555.1.2)))).bind fun x645 => if (x645 && (decide (r609 < 0))) then (ring_Winding_k1 (sb n457 1)) else (ring_Winding_k1 n457)))
noncomputable def ring_Winding_b3 (n457 : Int) : Option (Int × Bool) :=
  some (n457, true)
noncomputable def ring_Winding_b4 : Option (Int × Bool) :=
  some (0, false)
noncomputable def ring_Winding (l1 : List (Int × Int)) (p2 : Int × Int) : Option (Int × Bool) :=
  (exact_Right [p2]).bind fun r343 => (gd (!(!r343)) (exact_Right l1) false).bind fun r344 => if ((!r343) || (!r344)) then (some (0, false)) else (rngO (ring_edges_1 (Int ⊕ Unit) (yb (fun (sr : Int) (xr : (Int × Int) × (Int × Int)) => ring_Winding_b2 p2 sr xr)) (Sum.inl 0) l1) (fun (sr : Int) => ring_Winding_b3 sr) (fun (sr : Unit) => ring_Winding_b4))
noncomputable def ring_beside_has_1 (n1 : Int) (c2 : Int) (d3 : Int) : Option (Bool) :=
  (some ((decide ((ml 2 (mn c2 d3)) ≤ n1)) && (decide (n1 ≤ (ml 2 (mx c2 d3)))))).bind fun x15 => some x15
noncomputable def ring_beside_has (m1 : (Int × Int) × (Int × Int)) (x2 : Int × Int) (b3 : Int × Int) : Option (Bool) :=
  (some (ml (sb b3.1 x2.1) (sb m1.1.2 (ml 2 x2.2)))).bind fun x39 => (some (ml (sb b3.2 x2.2) (sb m1.1.1 (ml 2 x2.1)))).bind fun x40 => (some ((decide ((ml (sb b3.1 x2.1) m1.2.2) = (ml (sb b3.2 x2.2) m1.2.1))) || (!decide (x39 = x40)))).bind fun x41 => if x41 then (some false) else ((ring_beside_has_1 m1.1.1 x2.1 b3.1).bind fun r46 => (gd r46 (ring_beside_has_1 m1.1.2 x2.2 b3.2) false).bind fun r47 => some (r46 && r47))
end Go.Proofs.Ythkmkmkcnljmaaa
