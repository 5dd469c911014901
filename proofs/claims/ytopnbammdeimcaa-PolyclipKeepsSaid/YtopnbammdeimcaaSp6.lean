import Derived.Test.YtopnbammdeimcaaSp2
import Derived.Test.YtopnbammdeimcaaSp3
namespace Go.Proofs.Ytopnbammdeimcaa
set_option linter.unusedVariables false
noncomputable def rows_Meet (x1 : (Int × Int) × (Int × Int)) (b2 : (Int × Int) × (Int × Int)) : Option (Bool) :=
  (rows_Right x1).bind fun r26 => (gd r26 (rows_Right b2) false).bind fun r27 => (some ((r26 && r27) && (decide (x1.1.1 ≤ b2.2.1)))).bind fun x28 => (some ((x28 && (decide (b2.1.1 ≤ x1.2.1))) && (decide (x1.1.2 ≤ b2.2.2)))).bind fun x29 => some (x29 && (decide (b2.1.2 ≤ x1.2.2)))
noncomputable def exact_Turn (x1 : Int × Int) (b2 : Int × Int) (c3 : Int × Int) : Option (Int) :=
  (exact_Cross x1 b2 c3).bind fun r37 => if (decide (0 < r37)) then (some 1) else (if (decide (r37 < 0)) then (some (-1)) else (some 0))
noncomputable def exact_Less (x1 : Int × Int) (b2 : Int × Int) : Option (Bool) :=
  (some ((decide (x1.1 = b2.1)) && (decide (x1.2 < b2.2)))).bind fun x23 => some ((decide (x1.1 < b2.1)) || x23)
noncomputable def seg_line_k2 (x92 : Int × Int) (b94 : Int × Int) (c106 : Int × Int) (d108 : Int × Int) : Option (Int) :=
  (exact_Less b94 c106).bind fun r113 => (gd (!r113) (exact_Less d108 x92) false).bind fun r114 => if (r113 || r114) then (some 0) else ((some ((decide (b94 = c106)) || (decide (d108 = x92)))).bind fun x118 => if x118 then (some 1) else (some 4))
noncomputable def seg_line_k1 (c3 : Int × Int) (d4 : Int × Int) (x92 : Int × Int) (b94 : Int × Int) : Option (Int) :=
  (exact_Less d4 c3).bind fun r123 => if r123 then (seg_line_k2 x92 b94 d4 c3) else (seg_line_k2 x92 b94 c3 d4)
noncomputable def seg_line (x1 : Int × Int) (b2 : Int × Int) (c3 : Int × Int) (d4 : Int × Int) : Option (Int) :=
  (exact_Less b2 x1).bind fun r130 => if r130 then (seg_line_k1 c3 d4 b2 x1) else (seg_line_k1 c3 d4 x1 b2)
noncomputable def seg_Class_k2 (ends132 : Int) : Option (Int × Int) :=
  (ix [3, 2, 1] ends132).bind fun x135 => some (x135, 0)
noncomputable def seg_Class_k1 (r106 : Int) (r107 : Int) (ends125 : Int) : Option (Int × Int) :=
  if (decide ((ml r106 r107) = 0)) then (seg_Class_k2 (ad ends125 1)) else (seg_Class_k2 ends125)
noncomputable def seg_Class (x1 : Int × Int) (b2 : Int × Int) (c3 : Int × Int) (d4 : Int × Int) : Option (Int × Int) :=
  (exact_Right [x1, b2, c3, d4]).bind fun r90 => if (!r90) then (some (0, 5)) else ((some ((decide (x1 = b2)) || (decide (c3 = d4)))).bind fun x94 => if x94 then (some (0, 1)) else ((some ((decide (x1 = c3)) && (decide (b2 = d4)))).bind fun x98 => (some ((decide (x1 = d4)) && (decide (b2 = c3)))).bind fun x99 => if (x98 || x99) then (some (5, 0)) else ((exact_Turn x1 b2 c3).bind fun r103 => (exact_Turn x1 b2 d4).bind fun r104 => (exact_Turn c3 d4 x1).bind fun r106 => (exact_Turn c3 d4 b2).bind fun r107 => (some ((decide (r103 = 0)) && (decide (r104 = 0)))).bind fun x110 => if x110 then ((seg_line x1 b2 c3 d4).bind fun r113 => some (r113, 0)) else ((some ((decide (0 < (ml r103 r104))) || (decide (0 < (ml r106 r107))))).bind fun x116 => if x116 then (some (0, 0)) else (if (decide ((ml r103 r104) = 0)) then (seg_Class_k1 r106 r107 1) else (seg_Class_k1 r106 r107 0))))))
noncomputable def ring_Simple_k1 : Option (Bool) :=
  some false
noncomputable def ring_Simple_b4 (l1 : List (Int × Int)) (x1083 : Int) (k1194 : Int) : Option (Int ⊕ (Int ⊕ Bool)) :=
  if (decide (k1194 < (l1.length : Int))) then ((ix l1 x1083).bind fun x1224 => (rmK (ad x1083 1) (l1.length : Int)).bind fun x1225 => (ix l1 x1225).bind fun x1226 => (ix l1 k1194).bind fun x1227 => (rmK (ad k1194 1) (l1.length : Int)).bind fun x1228 => (ix l1 x1228).bind fun x1229 => (seg_Class x1224 x1226 x1227 x1229).bind fun r1230 => (some ((decide (x1083 = 0)) && (decide (k1194 = (sb (l1.length : Int) 1))))).bind fun x1232 => (some ((decide (k1194 = (ad x1083 1))) || x1232)).bind fun x1233 => (some ((!x1233) && (!decide (r1230.1 = 0)))).bind fun x1235 => (some ((x1233 && (!decide (r1230.1 = 1))) || x1235)).bind fun x1236 => if x1236 then (Option.map Sum.inr (Option.map Sum.inr ring_Simple_k1)) else (some (Sum.inl (ad k1194 1)))) else (Option.map Sum.inr (some (Sum.inl (ad x1083 1))))
noncomputable def ring_Simple_l4 (l1 : List (Int × Int)) (x1083 : Int) (s : Int) : Option (Int ⊕ Bool) := loopO (fun s => ring_Simple_b4 l1 x1083 s) s
noncomputable def ring_Simple_b3 (l1 : List (Int × Int)) (x1083 : Int) : Option (Int ⊕ Bool) :=
  if (decide (x1083 < (l1.length : Int))) then (ring_Simple_l4 l1 x1083 (ad x1083 1)) else (Option.map Sum.inr (some true))
noncomputable def ring_Simple_l3 (l1 : List (Int × Int)) (s : Int) : Option (Bool) := loopO (fun s => ring_Simple_b3 l1 s) s
noncomputable def ring_Simple_b2 (l1 : List (Int × Int)) (met967 : List ((Int × Int) × Bool)) (x968 : Int) : Option (((List ((Int × Int) × Bool)) × Int) ⊕ Bool) :=
  if (decide (x968 < (l1.length : Int))) then ((ix l1 x968).bind fun x994 => if (lkM met967 x994).getD false then (Option.map Sum.inr ring_Simple_k1) else ((some (upM met967 x994 true)).bind fun D1002 => some (Sum.inl (D1002, ad x968 1)))) else (Option.map Sum.inr (ring_Simple_l3 l1 0))
noncomputable def ring_Simple_l2 (l1 : List (Int × Int)) (s : (List ((Int × Int) × Bool)) × Int) : Option (Bool) := loopO (fun s => ring_Simple_b2 l1 s.1 s.2) s
noncomputable def ring_Simple (l1 : List (Int × Int)) : Option (Bool) :=
  (gd (!(decide ((l1.length : Int) < 3))) (exact_Right l1) false).bind fun r936 => (some ((decide ((l1.length : Int) < 3)) || (!r936))).bind fun x937 => if x937 then (some false) else (ring_Simple_l2 l1 (([] : List ((Int × Int) × Bool)), 0))
noncomputable def exact_between (x1 : Int × Int) (b2 : Int × Int) (p3 : Int × Int) : Option (Bool) :=
  (exact_within p3.1 (mn x1.1 b2.1) (mx x1.1 b2.1)).bind fun r28 => (gd r28 (exact_within p3.2 (mn x1.2 b2.2) (mx x1.2 b2.2)) false).bind fun r29 => some (r28 && r29)
noncomputable def exact_On (x1 : Int × Int) (b2 : Int × Int) (p3 : Int × Int) : Option (Bool) :=
  (exact_Right [x1, b2, p3]).bind fun r33 => (gd r33 (exact_Turn x1 b2 p3) 0).bind fun r34 => (gd (r33 && (decide (r34 = 0))) (exact_between x1 b2 p3) false).bind fun r35 => some ((r33 && (decide (r34 = 0))) && r35)
noncomputable def ring_Winding_k1 (n630 : Int) : Option (Int ⊕ Unit) :=
  some (Sum.inl n630)
noncomputable def ring_Winding_b2 (p2 : Int × Int) (n457 : Int) (x555 : (Int × Int) × (Int × Int)) : Option (Int ⊕ Unit) :=
  (exact_Turn x555.1 x555.2 p2).bind fun r609 => (exact_On x555.1 x555.2 p2).bind fun r633 => if r633 then (some (Sum.inr ())) else ((some ((decide (x555.1.2 ≤ p2.2)) && (decide (p2.2 < x555.2.2)))).bind fun x640 => if (x640 && (decide (0 < r609))) then (ring_Winding_k1 (ad n457 1)) else ((some ((decide (x555.2.2 ≤ p2.2)) && (decide (p2.2 < x555.1.2)))).bind fun x645 => if (x645 && (decide (r609 < 0))) then (ring_Winding_k1 (sb n457 1)) else (ring_Winding_k1 n457)))
noncomputable def ring_Winding_b3 (n457 : Int) : Option (Int × Bool) :=
  some (n457, true)
noncomputable def ring_Winding_b4 : Option (Int × Bool) :=
  some (0, false)
noncomputable def ring_Winding (l1 : List (Int × Int)) (p2 : Int × Int) : Option (Int × Bool) :=
  (exact_Right [p2]).bind fun r343 => (gd (!(!r343)) (exact_Right l1) false).bind fun r344 => if ((!r343) || (!r344)) then (some (0, false)) else (rngO (ring_edges_1 (Int ⊕ Unit) (yb (fun (sr : Int) (xr : (Int × Int) × (Int × Int)) => ring_Winding_b2 p2 sr xr)) (Sum.inl 0) l1) (fun (sr : Int) => ring_Winding_b3 sr) (fun (sr : Unit) => ring_Winding_b4))
end Go.Proofs.Ytopnbammdeimcaa
