/-
  Chapter 03. Said plainly. No program in sight.
-/
import Derived.Test.YthkmkmkcnljmaaaSp4
import Derived.Test.YthkmkmkcnljmaaaSp5
import Derived.Test.YthkmkmkcnljmaaaSp6
import Derived.Test.YthkmkmkcnljmaaaSp7
namespace Go.Proofs.Ythkmkmkcnljmaaa
set_option linter.unusedVariables false
noncomputable def ref03_Same_b1 (x1 : List (Int × Int)) (b2 : List (Int × Int)) (i78 : Int) : Option (Int ⊕ Bool) :=
  if (decide (i78 < (x1.length : Int))) then ((ix x1 i78).bind fun x98 => (ix b2 i78).bind fun x99 => if (!decide (x98 = x99)) then (Option.map Sum.inr (some false)) else (some (Sum.inl (ad i78 1)))) else (Option.map Sum.inr (some true))
noncomputable def ref03_Same_l1 (x1 : List (Int × Int)) (b2 : List (Int × Int)) (s : Int) : Option (Bool) := loopO (fun s => ref03_Same_b1 x1 b2 s) s
noncomputable def ref03_Same (x1 : List (Int × Int)) (b2 : List (Int × Int)) : Option (Bool) :=
  if (!decide ((x1.length : Int) = (b2.length : Int))) then (some false) else (ref03_Same_l1 x1 b2 0)
noncomputable def law03_Same (l1 : List (Int × Int)) (x2 : List (Int × Int)) : Option (Bool) :=
  (law01_Ofs l1).bind fun r18 => (ref03_Same r18 x2).bind fun r21 => some r21
noncomputable def slices_Compact_api_Point_api_Point_k3 (k1624 : Int) (s1775 : List (Int × Int)) (k1777 : Int) : Option (((List (Int × Int)) × Int × Int) ⊕ (Int ⊕ (List (Int × Int)))) :=
  some (Sum.inl (s1775, k1777, ad k1624 1))
noncomputable def slices_Compact_api_Point_api_Point_b2 (k1219 : Int) (n1530 : Int) (s1621 : List (Int × Int)) (k1623 : Int) (k1624 : Int) : Option (((List (Int × Int)) × Int × Int) ⊕ (Int ⊕ (List (Int × Int)))) :=
  if (decide (k1624 < (n1530 - k1219))) then ((wn k1219 n1530 k1624).bind fun q1781 => (ix s1621 q1781).bind fun x1782 => (wn k1219 n1530 (sb k1624 1)).bind fun q1783 => (ix s1621 q1783).bind fun x1784 => if (!decide (x1782 = x1784)) then ((wn k1219 n1530 k1624).bind fun q1790 => (ix s1621 q1790).bind fun x1791 => (ix s1621 k1623).bind fun x1792 => (put s1621 k1623 x1791).bind fun l1793 => slices_Compact_api_Point_api_Point_k3 k1624 l1793 (ad k1623 1)) else (slices_Compact_api_Point_api_Point_k3 k1624 s1621 k1623)) else (Option.map Sum.inr ((cut s1621 k1623 (s1621.length : Int)).bind fun x1801 => (some (s1621.length : Int)).bind fun n1803 => (clr s1621 k1623 n1803 (0, 0)).bind fun l1804 => (cut l1804 0 k1623).bind fun x1810 => Option.map Sum.inr (some x1810)))
noncomputable def slices_Compact_api_Point_api_Point_l2 (k1219 : Int) (n1530 : Int) (s : (List (Int × Int)) × Int × Int) : Option (Int ⊕ (List (Int × Int))) := loopO (fun s => slices_Compact_api_Point_api_Point_b2 k1219 n1530 s.1 s.2.1 s.2.2) s
noncomputable def slices_Compact_api_Point_api_Point_b1 (s1 : List (Int × Int)) (k1219 : Int) : Option (Int ⊕ (List (Int × Int))) :=
  if (decide (k1219 < (s1.length : Int))) then ((ix s1 k1219).bind fun x1524 => (ix s1 (sb k1219 1)).bind fun x1525 => if (decide (x1524 = x1525)) then ((cut s1 k1219 (s1.length : Int)).bind fun x1528 => (some (s1.length : Int)).bind fun n1530 => slices_Compact_api_Point_api_Point_l2 k1219 n1530 (s1, k1219, 1)) else (some (Sum.inl (ad k1219 1)))) else (Option.map Sum.inr (some s1))
noncomputable def slices_Compact_api_Point_api_Point_l1 (s1 : List (Int × Int)) (s : Int) : Option (List (Int × Int)) := loopO (fun s => slices_Compact_api_Point_api_Point_b1 s1 s) s
noncomputable def slices_Compact_api_Point_api_Point (s1 : List (Int × Int)) : Option (List (Int × Int)) :=
  if (decide ((s1.length : Int) < 2)) then (some s1) else (slices_Compact_api_Point_api_Point_l1 s1 1)
noncomputable def slices_Clip_api_Point_api_Point (s1 : List (Int × Int)) : Option (List (Int × Int)) :=
  (cut s1 0 (s1.length : Int)).bind fun x17 => some x17
noncomputable def ring_Thin_b1 (out99 : List (Int × Int)) : Option ((List (Int × Int)) ⊕ (List (Int × Int))) :=
  (gd (decide (1 < (out99.length : Int))) (ix out99 (sb (out99.length : Int) 1)) (0, 0)).bind fun x118 => (gd (decide (1 < (out99.length : Int))) (ix out99 0) (0, 0)).bind fun x119 => (some ((decide (1 < (out99.length : Int))) && (decide (x118 = x119)))).bind fun x120 => if x120 then ((cut out99 0 (sb (out99.length : Int) 1)).bind fun x126 => some (Sum.inl x126)) else (Option.map Sum.inr ((slices_Clip_api_Point_api_Point out99).bind fun r130 => some r130))
noncomputable def ring_Thin_l1 (s : List (Int × Int)) : Option (List (Int × Int)) := loopO (fun s => ring_Thin_b1 s) s
noncomputable def ring_Thin (l1 : List (Int × Int)) : Option (List (Int × Int)) :=
  (slices_Clone_api_Point_api_Point l1).bind fun r74 => (slices_Compact_api_Point_api_Point r74).bind fun r77 => ring_Thin_l1 r77
noncomputable def ref03_Thin_k2 (i377 : Int) (out519 : List (Int × Int)) : Option (((List (Int × Int)) × Int) ⊕ (List (Int × Int))) :=
  some (Sum.inl (out519, ad i377 1))
noncomputable def ref03_Thin_b3 (out557 : List (Int × Int)) : Option ((List (Int × Int)) ⊕ (List (Int × Int))) :=
  (gd (decide (1 < (out557.length : Int))) (ix out557 0) (0, 0)).bind fun x576 => (gd (decide (1 < (out557.length : Int))) (ix out557 (sb (out557.length : Int) 1)) (0, 0)).bind fun x577 => (some ((decide (1 < (out557.length : Int))) && (decide (x576 = x577)))).bind fun x578 => if x578 then ((cut out557 0 (sb (out557.length : Int) 1)).bind fun x584 => some (Sum.inl x584)) else (Option.map Sum.inr (some out557))
noncomputable def ref03_Thin_l3 (s : List (Int × Int)) : Option (List (Int × Int)) := loopO (fun s => ref03_Thin_b3 s) s
noncomputable def ref03_Thin_b1 (l1 : List (Int × Int)) (out375 : List (Int × Int)) (i377 : Int) : Option (((List (Int × Int)) × Int) ⊕ (List (Int × Int))) :=
  if (decide (i377 < (l1.length : Int))) then ((gd (!(decide (i377 = 0))) (ix l1 i377) (0, 0)).bind fun x524 => (gd (!(decide (i377 = 0))) (ix l1 (sb i377 1)) (0, 0)).bind fun x525 => (some ((decide (i377 = 0)) || (!decide (x524 = x525)))).bind fun x526 => if x526 then ((ix l1 i377).bind fun x532 => (app out375 [x532]).bind fun x535 => ref03_Thin_k2 i377 x535) else (ref03_Thin_k2 i377 out375)) else (Option.map Sum.inr (ref03_Thin_l3 out375))
noncomputable def ref03_Thin_l1 (l1 : List (Int × Int)) (s : (List (Int × Int)) × Int) : Option (List (Int × Int)) := loopO (fun s => ref03_Thin_b1 l1 s.1 s.2) s
noncomputable def ref03_Thin (l1 : List (Int × Int)) : Option (List (Int × Int)) :=
  ref03_Thin_l1 l1 (([] : List (Int × Int)), 0)
end Go.Proofs.Ythkmkmkcnljmaaa
