/-
  Chapter 21. Said plainly. No program in sight.
-/
import Derived.Test.YtopnbammdeimcaaSp8
namespace Go.Proofs.Ytopnbammdeimcaa
set_option linter.unusedVariables false
noncomputable def ring_Simple_k1 : Option (Bool) :=
  some false
noncomputable def ring_Simple_b4 (l1 : List (Int × Int)) (x1087 : Int) (k1198 : Int) : Option (Int ⊕ (Int ⊕ Bool)) :=
  if (decide (k1198 < (l1.length : Int))) then ((ix l1 x1087).bind fun x1228 => (rmK (ad x1087 1) (l1.length : Int)).bind fun x1229 => (ix l1 x1229).bind fun x1230 => (ix l1 k1198).bind fun x1231 => (rmK (ad k1198 1) (l1.length : Int)).bind fun x1232 => (ix l1 x1232).bind fun x1233 => (seg_Class x1228 x1230 x1231 x1233).bind fun r1234 => (some ((decide (x1087 = 0)) && (decide (k1198 = (sb (l1.length : Int) 1))))).bind fun x1236 => (some ((decide (k1198 = (ad x1087 1))) || x1236)).bind fun x1237 => (some ((!x1237) && (!decide (r1234.1 = 0)))).bind fun x1239 => (some ((x1237 && (!decide (r1234.1 = 1))) || x1239)).bind fun x1240 => if x1240 then (Option.map Sum.inr (Option.map Sum.inr ring_Simple_k1)) else (some (Sum.inl (ad k1198 1)))) else (Option.map Sum.inr (some (Sum.inl (ad x1087 1))))
noncomputable def ring_Simple_l4 (l1 : List (Int × Int)) (x1087 : Int) (s : Int) : Option (Int ⊕ Bool) := loopO (fun s => ring_Simple_b4 l1 x1087 s) s
noncomputable def ring_Simple_b3 (l1 : List (Int × Int)) (x1087 : Int) : Option (Int ⊕ Bool) :=
  if (decide (x1087 < (l1.length : Int))) then (ring_Simple_l4 l1 x1087 (ad x1087 1)) else (Option.map Sum.inr (some true))
noncomputable def ring_Simple_l3 (l1 : List (Int × Int)) (s : Int) : Option (Bool) := loopO (fun s => ring_Simple_b3 l1 s) s
noncomputable def ring_Simple_b2 (l1 : List (Int × Int)) (met970 : List ((Int × Int) × Bool)) (x971 : Int) : Option (((List ((Int × Int) × Bool)) × Int) ⊕ Bool) :=
  if (decide (x971 < (l1.length : Int))) then ((ix l1 x971).bind fun x997 => if (lkM met970 x997).getD false then (Option.map Sum.inr ring_Simple_k1) else ((some (upM met970 x997 true)).bind fun D1005 => some (Sum.inl (D1005, ad x971 1)))) else (Option.map Sum.inr (ring_Simple_l3 l1 0))
noncomputable def ring_Simple_l2 (l1 : List (Int × Int)) (s : (List ((Int × Int) × Bool)) × Int) : Option (Bool) := loopO (fun s => ring_Simple_b2 l1 s.1 s.2) s
noncomputable def ring_Simple (l1 : List (Int × Int)) : Option (Bool) :=
  (gd (!(decide ((l1.length : Int) < 3))) (exact_Right l1) false).bind fun r939 => (some ((decide ((l1.length : Int) < 3)) || (!r939))).bind fun x940 => if x940 then (some false) else (ring_Simple_l2 l1 (([] : List ((Int × Int) × Bool)), 0))
noncomputable def exact_between (x1 : Int × Int) (b2 : Int × Int) (p3 : Int × Int) : Option (Bool) :=
  (exact_within p3.1 (mn x1.1 b2.1) (mx x1.1 b2.1)).bind fun r28 => (gd r28 (exact_within p3.2 (mn x1.2 b2.2) (mx x1.2 b2.2)) false).bind fun r29 => some (r28 && r29)
noncomputable def exact_On (x1 : Int × Int) (b2 : Int × Int) (p3 : Int × Int) : Option (Bool) :=
  (exact_Right [x1, b2, p3]).bind fun r33 => (gd r33 (exact_Turn x1 b2 p3) 0).bind fun r34 => (gd (r33 && (decide (r34 = 0))) (exact_between x1 b2 p3) false).bind fun r35 => some ((r33 && (decide (r34 = 0))) && r35)
noncomputable def ring_Winding_k1 (n630 : Int) : Option (Int ⊕ Unit) :=
  some (Sum.inl n630)
noncomputable def ring_Winding_b2 (p2 : Int × Int) (n457 : Int) (x555 : (Int × Int) × (Int × Int)) : Option (Int ⊕ Unit) :=
  (exact_Turn x555.1 x555.2 p2).bind fun r609 => (exact_On x555.1 x555.2 p2).bind fun r633 => if r633 then (some (Sum.inr ())) else ((some ((decide (x555.1.2 ≤ p2.2)) && (decide (p2.2 < x555.2.2)))).bind fun x640 => if (x640 && (decide (0 < r609))) then (ring_Winding_k1 (ad n457 1)) else ((some ((decide (x555.2.2 ≤ p2.2)) && (decide (p2.2 < x555.1.2)))).bind fun x645 => if (x645 && (decide (r609 < 0))) then (ring_Winding_k1 (sb n457 1)) else (ring_Winding_k1 n457)))
noncomputable def ring_Winding_b3 (n457 : Int) : Option (Int × Bool) :=
  some (n457, true)
noncomputable def ring_Winding_b4 : Option (Int × Bool) :=
  some (0, false)
noncomputable def ring_Winding (l1 : List (Int × Int)) (p2 : Int × Int) : Option (Int × Bool) :=
  (exact_Right [p2]).bind fun r343 => (gd (!(!r343)) (exact_Right l1) false).bind fun r344 => if ((!r343) || (!r344)) then (some (0, false)) else (rngO (ring_edges_1 (Int ⊕ Unit) (yb (fun (sr : Int) (xr : (Int × Int) × (Int × Int)) => ring_Winding_b2 p2 sr xr)) (Sum.inl 0) l1) (fun (sr : Int) => ring_Winding_b3 sr) (fun (sr : Unit) => ring_Winding_b4))
end Go.Proofs.Ytopnbammdeimcaa
