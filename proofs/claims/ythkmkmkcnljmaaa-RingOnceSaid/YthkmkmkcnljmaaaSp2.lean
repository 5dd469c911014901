import Derived.Test.YthkmkmkcnljmaaaSp1
namespace Go.Proofs.Ythkmkmkcnljmaaa
set_option linter.unusedVariables false
noncomputable def exact_between (x1 : Int × Int) (b2 : Int × Int) (p3 : Int × Int) : Option (Bool) :=
  (exact_within p3.1 (mn x1.1 b2.1) (mx x1.1 b2.1)).bind fun r28 => (gd r28 (exact_within p3.2 (mn x1.2 b2.2) (mx x1.2 b2.2)) false).bind fun r29 => some (r28 && r29)
noncomputable def exact_On (x1 : Int × Int) (b2 : Int × Int) (p3 : Int × Int) : Option (Bool) :=
  (exact_Right [x1, b2, p3]).bind fun r33 => (gd r33 (exact_Turn x1 b2 p3) 0).bind fun r34 => (gd (r33 && (decide (r34 = 0))) (exact_between x1 b2 p3) false).bind fun r35 => some ((r33 && (decide (r34 = 0))) && r35)
noncomputable def ring_Winding_k1 (n630 : Int) : Option (Int ⊕ Unit) :=
  some (Sum.inl n630)
noncomputable def ring_Winding_b2 (p2 : Int × Int) (n457 : Int) (x555 : (Int × Int) × (Int × Int)) : Option (Int ⊕ Unit) :=
  (exact_Turn x555.1 x555.2 p2).bind fun r609 => (exact_On x555.1 x555.2 p2).bind fun r633 => if r633 then (some (Sum.inr ())) else ((some ((decide (x555.1.2 ≤ p2.2)) && (decide (p2.2 < x555.2.2)))).bind fun x640 => if (x640 && (decide (0 < r609))) then (ring_Winding_k1 (ad n457 1)) else ((some ((decide (x555.2.2 ≤ p2.2)) && (decide (p2.2 < x555.1.2)))).bind fun x645 => if (x645 && (decide (r609 < 0))) then (ring_Winding_k1 (sb n457 1)) else (ring_Winding_k1 n457)))
noncomputable def ring_Winding_b3 (n457 : Int) : Option (Int × Bool) :=
  some (n457, true)
noncomputable def ring_Winding_b4 : Option (Int × Bool) :=
  some (0, false)
noncomputable def ring_Winding (l1 : List (Int × Int)) (p2 : Int × Int) : Option (Int × Bool) :=
  (exact_Right [p2]).bind fun r343 => (gd (!(!r343)) (exact_Right l1) false).bind fun r344 => if ((!r343) || (!r344)) then (some (0, false)) else (rngO (ring_edges_1 (Int ⊕ Unit) (yb (fun (sr : Int) (xr : (Int × Int) × (Int × Int)) => ring_Winding_b2 p2 sr xr)) (Sum.inl 0) l1) (fun (sr : Int) => ring_Winding_b3 sr) (fun (sr : Unit) => ring_Winding_b4))
noncomputable def ring_beside_has_1 (n1 : Int) (c2 : Int) (d3 : Int) : Option (Bool) :=
  (some ((decide ((ml 2 (mn c2 d3)) ≤ n1)) && (decide (n1 ≤ (ml 2 (mx c2 d3)))))).bind fun x15 => some x15
noncomputable def ring_beside_has (m1 : (Int × Int) × (Int × Int)) (x2 : Int × Int) (b3 : Int × Int) : Option (Bool) :=
  (some (ml (sb b3.1 x2.1) (sb m1.1.2 (ml 2 x2.2)))).bind fun x39 => (some (ml (sb b3.2 x2.2) (sb m1.1.1 (ml 2 x2.1)))).bind fun x40 => (some ((decide ((ml (sb b3.1 x2.1) m1.2.2) = (ml (sb b3.2 x2.2) m1.2.1))) || (!decide (x39 = x40)))).bind fun x41 => if x41 then (some false) else ((ring_beside_has_1 m1.1.1 x2.1 b3.1).bind fun r46 => (gd r46 (ring_beside_has_1 m1.1.2 x2.2 b3.2) false).bind fun r47 => some (r46 && r47))
noncomputable def ring_beside_over (m1 : (Int × Int) × (Int × Int)) (y2 : Int) : Option (Bool) :=
  if (decide (m1.2.1 < 0)) then (some (decide (m1.1.2 ≤ (ml 2 y2)))) else (some (decide (m1.1.2 < (ml 2 y2))))
noncomputable def ring_beside_side_k1 (n51 : Int) : Option (Int) :=
  some n51
noncomputable def ring_beside_side (m1 : (Int × Int) × (Int × Int)) (x2 : Int × Int) (b3 : Int × Int) : Option (Int) :=
  (some (ml (sb b3.1 x2.1) (sb m1.1.2 (ml 2 x2.2)))).bind fun x43 => (some (ml (sb b3.2 x2.2) (sb m1.1.1 (ml 2 x2.1)))).bind fun x44 => if (decide ((sb x43 x44) = 0)) then ((some (ad (ml (sb b3.1 x2.1) m1.2.1) (ml (sb b3.2 x2.2) m1.2.2))).bind fun x57 => ring_beside_side_k1 x57) else (ring_beside_side_k1 (sb x43 x44))
noncomputable def ring_Beside_k1 (n693 : Int) : Option (Int ⊕ Unit) :=
  some (Sum.inl n693)
noncomputable def ring_Beside_b2 (x2 : Int × Int) (b3 : Int × Int) (n503 : Int) (x609 : (Int × Int) × (Int × Int)) : Option (Int ⊕ Unit) :=
  (ring_beside_has ((ad x2.1 b3.1, ad x2.2 b3.2), (sb b3.1 x2.1, sb b3.2 x2.2)) x609.1 x609.2).bind fun r668 => if r668 then (some (Sum.inr ())) else ((ring_beside_over ((ad x2.1 b3.1, ad x2.2 b3.2), (sb b3.1 x2.1, sb b3.2 x2.2)) x609.1.2).bind fun r696 => (gd (!r696) (ring_beside_over ((ad x2.1 b3.1, ad x2.2 b3.2), (sb b3.1 x2.1, sb b3.2 x2.2)) x609.2.2) false).bind fun r697 => (gd ((!r696) && r697) (ring_beside_side ((ad x2.1 b3.1, ad x2.2 b3.2), (sb b3.1 x2.1, sb b3.2 x2.2)) x609.1 x609.2) 0).bind fun r698 => (some (((!r696) && r697) && (decide (0 < r698)))).bind fun x699 => if x699 then (ring_Beside_k1 (ad n503 1)) else ((ring_beside_over ((ad x2.1 b3.1, ad x2.2 b3.2), (sb b3.1 x2.1, sb b3.2 x2.2)) x609.1.2).bind fun r704 => (gd r704 (ring_beside_over ((ad x2.1 b3.1, ad x2.2 b3.2), (sb b3.1 x2.1, sb b3.2 x2.2)) x609.2.2) false).bind fun r705 => (gd (r704 && (!r705)) (ring_beside_side ((ad x2.1 b3.1, ad x2.2 b3.2), (sb b3.1 x2.1, sb b3.2 x2.2)) x609.1 x609.2) 0).bind fun r706 => (some ((r704 && (!r705)) && (decide (r706 < 0)))).bind fun x707 => if x707 then (ring_Beside_k1 (sb n503 1)) else (ring_Beside_k1 n503)))
noncomputable def ring_Beside_b3 (n503 : Int) : Option (Int × Bool) :=
  some (n503, true)
noncomputable def ring_Beside_b4 : Option (Int × Bool) :=
  some (0, false)
noncomputable def ring_Beside (l1 : List (Int × Int)) (x2 : Int × Int) (b3 : Int × Int) : Option (Int × Bool) :=
  (gd (!(decide (x2 = b3))) (exact_Right [x2, b3]) false).bind fun r376 => (gd (!((decide (x2 = b3)) || (!r376))) (exact_Right l1) false).bind fun r377 => (some (((decide (x2 = b3)) || (!r376)) || (!r377))).bind fun x378 => if x378 then (some (0, false)) else (rngO (ring_edges_1 (Int ⊕ Unit) (yb (fun (sr : Int) (xr : (Int × Int) × (Int × Int)) => ring_Beside_b2 x2 b3 sr xr)) (Sum.inl 0) l1) (fun (sr : Int) => ring_Beside_b3 sr) (fun (sr : Unit) => ring_Beside_b4))
noncomputable def law03_known : Option (Bool) :=
  (ring_Winding [(0, 0), (4, 0), (4, 4), (0, 4)] (2, 2)).bind fun r37 => (ring_Winding [(0, 0), (4, 0), (4, 4), (0, 4)] (4, 2)).bind fun r39 => (ix [(0, 0), (4, 0), (4, 4), (0, 4)] 0).bind fun x41 => (ix [(0, 0), (4, 0), (4, 4), (0, 4)] 1).bind fun x42 => (ring_Beside [(0, 0), (4, 0), (4, 4), (0, 4)] x41 x42).bind fun r43 => (ix [(0, 0), (4, 0), (4, 4), (0, 4)] 1).bind fun x45 => (ix [(0, 0), (4, 0), (4, 4), (0, 4)] 0).bind fun x46 => (ring_Beside [(0, 0), (4, 0), (4, 4), (0, 4)] x45 x46).bind fun r47 => (ring_Area [(0, 0), (4, 0), (4, 4), (0, 4)]).bind fun r49 => (gd (decide (r49 = 32)) (ring_Simple [(0, 0), (4, 0), (4, 4), (0, 4)]) false).bind fun r50 => (some (((decide (r49 = 32)) && r50) && (decide (r37.1 = 1)))).bind fun x51 => (some (((x51 && r37.2) && (!r39.2)) && (decide (r43.1 = 1)))).bind fun x52 => (some ((x52 && r43.2) && (decide (r47.1 = 0)))).bind fun x53 => some (x53 && r47.2)
end Go.Proofs.Ythkmkmkcnljmaaa
