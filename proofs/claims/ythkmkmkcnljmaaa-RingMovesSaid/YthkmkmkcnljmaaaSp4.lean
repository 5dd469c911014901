/-
  Chapter 03. Said plainly. No program in sight.
-/
import Derived.Test.YthkmkmkcnljmaaaSp3
namespace Go.Proofs.Ythkmkmkcnljmaaa
set_option linter.unusedVariables false
noncomputable def ring_beside_over (m1 : (Int × Int) × (Int × Int)) (y2 : Int) : Option (Bool) :=
  if (decide (m1.2.1 < 0)) then (some (decide (m1.1.2 ≤ (ml 2 y2)))) else (some (decide (m1.1.2 < (ml 2 y2))))
noncomputable def ring_beside_side_k1 (n51 : Int) : Option (Int) :=
  some n51
noncomputable def ring_beside_side (m1 : (Int × Int) × (Int × Int)) (x2 : Int × Int) (b3 : Int × Int) : Option (Int) :=
  (some (ml (sb b3.1 x2.1) (sb m1.1.2 (ml 2 x2.2)))).bind fun x43 => (some (ml (sb b3.2 x2.2) (sb m1.1.1 (ml 2 x2.1)))).bind fun x44 => if (decide ((sb x43 x44) = 0)) then ((some (ad (ml (sb b3.1 x2.1) m1.2.1) (ml (sb b3.2 x2.2) m1.2.2))).bind fun x57 => ring_beside_side_k1 x57) else (ring_beside_side_k1 (sb x43 x44))
noncomputable def ring_Beside_k1 (n693 : Int) : Option (Int ⊕ Unit) :=
  some (Sum.inl n693)
noncomputable def ring_Beside_b2 (x2 : Int × Int) (b3 : Int × Int) (n503 : Int) (x609 : (Int × Int) × (Int × Int)) : Option (Int ⊕ Unit) :=
  (ring_beside_has ((ad x2.1 b3.1, ad x2.2 b3.2), (sb b3.1 x2.1, sb b3.2 x2.2)) x609.1 x609.2).bind fun r668 => if r668 then (some (Sum.inr ())) else ((ring_beside_over ((ad x2.1 b3.1, ad x2.2 b3.2), (sb b3.1 x2.1, sb b3.2 x2.2)) x609.1.2).bind fun r696 => (gd (!r696) (ring_beside_over ((ad x2.1 b3.1, ad x2.2 b3.2), (sb b3.1 x2.1, sb b3.2 x2.2)) x609.2.2) false).bind fun r697 => (gd ((!r696) && r697) (ring_beside_side ((ad x2.1 b3.1, ad x2.2 b3.2), (sb b3.1 x2.1, sb b3.2 x2.2)) x609.1 x609.2) 0).bind fun r698 => (some (((!r696) && r697) && (decide (0 < r698)))).bind fun x699 => if x699 then (ring_Beside_k1 (ad n503 1)) else ((ring_beside_over ((ad x2.1 b3.1, ad x2.2 b3.2), (sb b3.1 x2.1, sb b3.2 x2.2)) x609.1.2).bind fun r704 => (gd r704 (ring_beside_over ((ad x2.1 b3.1, ad x2.2 b3.2), (sb b3.1 x2.1, sb b3.2 x2.2)) x609.2.2) false).bind fun r705 => (gd (r704 && (!r705)) (ring_beside_side ((ad x2.1 b3.1, ad x2.2 b3.2), (sb b3.1 x2.1, sb b3.2 x2.2)) x609.1 x609.2) 0).bind fun r706 => (some ((r704 && (!r705)) && (decide (r706 < 0)))).bind fun x707 => if x707 then (ring_Beside_k1 (sb n503 1)) else (ring_Beside_k1 n503)))
noncomputable def ring_Beside_b3 (n503 : Int) : Option (Int × Bool) :=
  some (n503, true)
noncomputable def ring_Beside_b4 : Option (Int × Bool) :=
  some (0, false)
noncomputable def ring_Beside (l1 : List (Int × Int)) (x2 : Int × Int) (b3 : Int × Int) : Option (Int × Bool) :=
  (gd (!(decide (x2 = b3))) (exact_Right [x2, b3]) false).bind fun r376 => (gd (!((decide (x2 = b3)) || (!r376))) (exact_Right l1) false).bind fun r377 => (some (((decide (x2 = b3)) || (!r376)) || (!r377))).bind fun x378 => if x378 then (some (0, false)) else (rngO (ring_edges_1 (Int ⊕ Unit) (yb (fun (sr : Int) (xr : (Int × Int) × (Int × Int)) => ring_Beside_b2 x2 b3 sr xr)) (Sum.inl 0) l1) (fun (sr : Int) => ring_Beside_b3 sr) (fun (sr : Unit) => ring_Beside_b4))
noncomputable def law03_known : Option (Bool) :=
  (ring_Winding [(0, 0), (4, 0), (4, 4), (0, 4)] (2, 2)).bind fun r37 => (ring_Winding [(0, 0), (4, 0), (4, 4), (0, 4)] (4, 2)).bind fun r39 => (ix [(0, 0), (4, 0), (4, 4), (0, 4)] 0).bind fun x41 => (ix [(0, 0), (4, 0), (4, 4), (0, 4)] 1).bind fun x42 => (ring_Beside [(0, 0), (4, 0), (4, 4), (0, 4)] x41 x42).bind fun r43 => (ix [(0, 0), (4, 0), (4, 4), (0, 4)] 1).bind fun x45 => (ix [(0, 0), (4, 0), (4, 4), (0, 4)] 0).bind fun x46 => (ring_Beside [(0, 0), (4, 0), (4, 4), (0, 4)] x45 x46).bind fun r47 => (ring_Area [(0, 0), (4, 0), (4, 4), (0, 4)]).bind fun r49 => (gd (decide (r49 = 32)) (ring_Simple [(0, 0), (4, 0), (4, 4), (0, 4)]) false).bind fun r50 => (some (((decide (r49 = 32)) && r50) && (decide (r37.1 = 1)))).bind fun x51 => (some (((x51 && r37.2) && (!r39.2)) && (decide (r43.1 = 1)))).bind fun x52 => (some ((x52 && r43.2) && (decide (r47.1 = 0)))).bind fun x53 => some (x53 && r47.2)
end Go.Proofs.Ythkmkmkcnljmaaa
