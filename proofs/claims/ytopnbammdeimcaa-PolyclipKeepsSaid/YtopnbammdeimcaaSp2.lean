import Derived.Test.YtopnbammdeimcaaSp1
namespace Go.Proofs.Ytopnbammdeimcaa
set_option linter.unusedVariables false
noncomputable def rows_Right (b1 : (Int × Int) × (Int × Int)) : Option (Bool) :=
  (exact_Right [b1.1, b1.2]).bind fun r24 => (some ((r24 && (decide (b1.1.1 ≤ b1.2.1))) && (decide (b1.1.2 ≤ b1.2.2)))).bind fun x25 => some x25
noncomputable def slices_Compact_api_Point_api_Point_k3 (k1624 : Int) (s1775 : List (Int × Int)) (k1777 : Int) : Option (((List (Int × Int)) × Int × Int) ⊕ (Int ⊕ (List (Int × Int)))) :=
  some (Sum.inl (s1775, k1777, ad k1624 1))
noncomputable def slices_Compact_api_Point_api_Point_b2 (k1219 : Int) (n1530 : Int) (s1621 : List (Int × Int)) (k1623 : Int) (k1624 : Int) : Option (((List (Int × Int)) × Int × Int) ⊕ (Int ⊕ (List (Int × Int)))) :=
  if (decide (k1624 < (n1530 - k1219))) then ((wn k1219 n1530 k1624).bind fun q1781 => (ix s1621 q1781).bind fun x1782 => (wn k1219 n1530 (sb k1624 1)).bind fun q1783 => (ix s1621 q1783).bind fun x1784 => if (!decide (x1782 = x1784)) then ((wn k1219 n1530 k1624).bind fun q1790 => (ix s1621 q1790).bind fun x1791 => (ix s1621 k1623).bind fun x1792 => (put s1621 k1623 x1791).bind fun l1793 => slices_Compact_api_Point_api_Point_k3 k1624 l1793 (ad k1623 1)) else (slices_Compact_api_Point_api_Point_k3 k1624 s1621 k1623)) else (Option.map Sum.inr ((cut s1621 k1623 (s1621.length : Int)).bind fun x1801 => (some (s1621.length : Int)).bind fun n1803 => (clr s1621 k1623 n1803 (0, 0)).bind fun l1804 => (cut l1804 0 k1623).bind fun x1810 => Option.map Sum.inr (some x1810)))
noncomputable def slices_Compact_api_Point_api_Point_l2 (k1219 : Int) (n1530 : Int) (s : (List (Int × Int)) × Int × Int) : Option (Int ⊕ (List (Int × Int))) := loopO (fun s => slices_Compact_api_Point_api_Point_b2 k1219 n1530 s.1 s.2.1 s.2.2) s
noncomputable def slices_Compact_api_Point_api_Point_b1 (s1 : List (Int × Int)) (k1219 : Int) : Option (Int ⊕ (List (Int × Int))) :=
  if (decide (k1219 < (s1.length : Int))) then ((ix s1 k1219).bind fun x1524 => (ix s1 (sb k1219 1)).bind fun x1525 => if (decide (x1524 = x1525)) then ((cut s1 k1219 (s1.length : Int)).bind fun x1528 => (some (s1.length : Int)).bind fun n1530 => slices_Compact_api_Point_api_Point_l2 k1219 n1530 (s1, k1219, 1)) else (some (Sum.inl (ad k1219 1)))) else (Option.map Sum.inr (some s1))
noncomputable def slices_Compact_api_Point_api_Point_l1 (s1 : List (Int × Int)) (s : Int) : Option (List (Int × Int)) := loopO (fun s => slices_Compact_api_Point_api_Point_b1 s1 s) s
noncomputable def slices_Compact_api_Point_api_Point (s1 : List (Int × Int)) : Option (List (Int × Int)) :=
  if (decide ((s1.length : Int) < 2)) then (some s1) else (slices_Compact_api_Point_api_Point_l1 s1 1)
noncomputable def slices_Clone_api_Point_api_Point (s1 : List (Int × Int)) : Option (List (Int × Int)) :=
  (app ([] : List (Int × Int)) s1).bind fun x28 => some x28
noncomputable def slices_Clip_api_Point_api_Point (s1 : List (Int × Int)) : Option (List (Int × Int)) :=
  (cut s1 0 (s1.length : Int)).bind fun x17 => some x17
noncomputable def ring_Thin_b1 (out99 : List (Int × Int)) : Option ((List (Int × Int)) ⊕ (List (Int × Int))) :=
  (gd (decide (1 < (out99.length : Int))) (ix out99 (sb (out99.length : Int) 1)) (0, 0)).bind fun x118 => (gd (decide (1 < (out99.length : Int))) (ix out99 0) (0, 0)).bind fun x119 => (some ((decide (1 < (out99.length : Int))) && (decide (x118 = x119)))).bind fun x120 => if x120 then ((cut out99 0 (sb (out99.length : Int) 1)).bind fun x126 => some (Sum.inl x126)) else (Option.map Sum.inr ((slices_Clip_api_Point_api_Point out99).bind fun r130 => some r130))
noncomputable def ring_Thin_l1 (s : List (Int × Int)) : Option (List (Int × Int)) := loopO (fun s => ring_Thin_b1 s) s
noncomputable def ring_Thin (l1 : List (Int × Int)) : Option (List (Int × Int)) :=
  (slices_Clone_api_Point_api_Point l1).bind fun r74 => (slices_Compact_api_Point_api_Point r74).bind fun r77 => ring_Thin_l1 r77
noncomputable def polyclip_sides (b1 : (Int × Int) × (Int × Int)) : Option ((Int × Bool × Bool) × (Int × Bool × Bool) × (Int × Bool × Bool) × (Int × Bool × Bool)) :=
  some ((b1.1.1, true, false), (b1.2.1, false, false), (b1.1.2, true, true), (b1.2.2, false, true))
noncomputable def polyclip_Ring_b1 (r97 : (Int × Bool × Bool) × (Int × Bool × Bool) × (Int × Bool × Bool) × (Int × Bool × Bool)) (l116 : List (Int × Int)) (x118 : Int) : Option (((List (Int × Int)) × Int) ⊕ (List (Int × Int))) :=
  if (decide (x118 < 4)) then ((ix [r97.1, r97.2.1, r97.2.2.1, r97.2.2.2] x118).bind fun x142 => (polyclip_Half l116 x142.1 x142.2.1 x142.2.2).bind fun r147 => some (Sum.inl (r147, ad x118 1))) else (Option.map Sum.inr ((ring_Thin l116).bind fun r152 => (gd (!(decide ((r152.length : Int) < 3))) (ring_Area r152) 0).bind fun r157 => (some ((decide ((r152.length : Int) < 3)) || (decide (r157 = 0)))).bind fun x158 => if x158 then (some ([] : List (Int × Int))) else (some r152)))
noncomputable def polyclip_Ring_l1 (r97 : (Int × Bool × Bool) × (Int × Bool × Bool) × (Int × Bool × Bool) × (Int × Bool × Bool)) (s : (List (Int × Int)) × Int) : Option (List (Int × Int)) := loopO (fun s => polyclip_Ring_b1 r97 s.1 s.2) s
noncomputable def polyclip_Ring (l1 : List (Int × Int)) (b2 : (Int × Int) × (Int × Int)) : Option (List (Int × Int)) :=
  (exact_Right l1).bind fun r91 => (gd (!(!r91)) (rows_Right b2) false).bind fun r92 => if ((!r91) || (!r92)) then (some ([] : List (Int × Int))) else ((polyclip_sides b2).bind fun r97 => polyclip_Ring_l1 r97 (l1, 0))
noncomputable def ring_Alike_1_b1 (x1 : Int) (f1 : List (Int × Int)) (f2 : List (Int × Int)) (x90 : Int) : Option (Int ⊕ Bool) :=
  if (decide (x90 < (f1.length : Int))) then ((ix f1 x90).bind fun x115 => (rmK (ad x1 x90) (f2.length : Int)).bind fun x120 => (ix f2 x120).bind fun x121 => if (!decide (x115 = x121)) then (Option.map Sum.inr (some false)) else (some (Sum.inl (ad x90 1)))) else (Option.map Sum.inr (some true))
noncomputable def ring_Alike_1_l1 (x1 : Int) (f1 : List (Int × Int)) (f2 : List (Int × Int)) (s : Int) : Option (Bool) := loopO (fun s => ring_Alike_1_b1 x1 f1 f2 s) s
noncomputable def ring_Alike_1 (x1 : Int) (f1 : List (Int × Int)) (f2 : List (Int × Int)) : Option (Bool) :=
  ring_Alike_1_l1 x1 f1 f2 0
noncomputable def ring_Alike_b1 (x1 : List (Int × Int)) (b2 : List (Int × Int)) (x88 : Int) : Option (Int ⊕ Bool) :=
  if (decide (x88 < (b2.length : Int))) then ((ring_Alike_1 x88 x1 b2).bind fun r109 => if r109 then (Option.map Sum.inr (some true)) else (some (Sum.inl (ad x88 1)))) else (Option.map Sum.inr (some (decide ((x1.length : Int) = 0))))
noncomputable def ring_Alike_l1 (x1 : List (Int × Int)) (b2 : List (Int × Int)) (s : Int) : Option (Bool) := loopO (fun s => ring_Alike_b1 x1 b2 s) s
noncomputable def ring_Alike (x1 : List (Int × Int)) (b2 : List (Int × Int)) : Option (Bool) :=
  if (!decide ((x1.length : Int) = (b2.length : Int))) then (some false) else (ring_Alike_l1 x1 b2 0)
noncomputable def law21_known : Option (Bool) :=
  (polyclip_Ring [(0, 0), (8, 0), (8, 8), (0, 8)] ((2, 2), (4, 9))).bind fun r27 => (ring_Alike r27 [(2, 2), (4, 2), (4, 8), (2, 8)]).bind fun r33 => some r33
end Go.Proofs.Ytopnbammdeimcaa
