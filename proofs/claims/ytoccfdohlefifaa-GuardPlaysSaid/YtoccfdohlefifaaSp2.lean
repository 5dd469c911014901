import Derived.Test.YtoccfdohlefifaaSp1
namespace Go.Proofs.Ytoccfdohlefifaa
set_option linter.unusedVariables false
noncomputable def ref04_Put_b1 (l1 : List Int) (n2 : Int) (x74 : Int) : Option (Int ⊕ (List Int)) :=
  (gd (decide (0 < x74)) (ix l1 (sb x74 1)) 0).bind fun x86 => (some ((decide (0 < x74)) && (decide (n2 < x86)))).bind fun x87 => if x87 then (some (Sum.inl (sb x74 1))) else (Option.map Sum.inr ((cut l1 0 x74).bind fun x94 => (app ([] : List Int) x94).bind fun x96 => (app x96 [n2]).bind fun x101 => (cut l1 x74 (l1.length : Int)).bind fun x107 => (app x101 x107).bind fun x109 => some x109))
noncomputable def ref04_Put_l1 (l1 : List Int) (n2 : Int) (s : Int) : Option (List Int) := loopO (fun s => ref04_Put_b1 l1 n2 s) s
noncomputable def ref04_Put (l1 : List Int) (n2 : Int) : Option (List Int) :=
  ref04_Put_l1 l1 n2 (l1.length : Int)
noncomputable def law18_Lines_b1 (l1 : List Int) (out82 : List Int) (i84 : Int) : Option (((List Int) × Int) ⊕ (List Int)) :=
  (some ((decide (i84 < (l1.length : Int))) && (decide (i84 < 10)))).bind fun x101 => if x101 then ((ix l1 i84).bind fun x106 => (ref04_Put out82 x106).bind fun r107 => some (Sum.inl (r107, ad i84 1))) else (Option.map Sum.inr (some out82))
noncomputable def law18_Lines_l1 (l1 : List Int) (s : (List Int) × Int) : Option (List Int) := loopO (fun s => law18_Lines_b1 l1 s.1 s.2) s
noncomputable def law18_Lines (l1 : List Int) : Option (List Int) :=
  law18_Lines_l1 l1 (([] : List Int), 0)
noncomputable def law14_Cut_b1 (l1 : List ((List (Int × Int)) × Int × Int)) (out142 : List ((List (Int × Int)) × Int × Int)) (i145 : Int) : Option (((List ((List (Int × Int)) × Int × Int)) × Int) ⊕ (List ((List (Int × Int)) × Int × Int))) :=
  (some ((decide (i145 < (l1.length : Int))) && (decide (i145 < 10)))).bind fun x177 => if x177 then ((ix l1 i145).bind fun x182 => (cut x182.1 0 (mn (x182.1.length : Int) 20)).bind fun x190 => (app out142 [(x190, x182.2.1, x182.2.2)]).bind fun x198 => some (Sum.inl (x198, ad i145 1))) else (Option.map Sum.inr (some out142))
noncomputable def law14_Cut_l1 (l1 : List ((List (Int × Int)) × Int × Int)) (s : (List ((List (Int × Int)) × Int × Int)) × Int) : Option (List ((List (Int × Int)) × Int × Int)) := loopO (fun s => law14_Cut_b1 l1 s.1 s.2) s
noncomputable def law14_Cut (l1 : List ((List (Int × Int)) × Int × Int)) : Option (List ((List (Int × Int)) × Int × Int)) :=
  law14_Cut_l1 l1 (([] : List ((List (Int × Int)) × Int × Int)), 0)
noncomputable def order_Find_k2 (low199 : Int) (high200 : Int) : Option (((Int × Int)) ⊕ (Int × Bool)) :=
  some (Sum.inl (low199, high200))
noncomputable def order_Find_b1_0 (l1 : List Int) (n2 : Int) (low152 : Int) (high153 : Int) : Option (((Int × Int)) ⊕ (Int × Bool)) :=
  if (decide (low152 = high153)) then ((gd (decide (low152 < (l1.length : Int))) (ix l1 low152) 0).bind fun x188 => (some ((decide (low152 < (l1.length : Int))) && (decide (x188 = n2)))).bind fun x189 => Option.map Sum.inr (some (low152, x189))) else ((quK .i64 (sb high153 low152) 2).bind fun x203 => (ix l1 (ad low152 x203)).bind fun x205 => if (decide (x205 < n2)) then (order_Find_k2 (ad (ad low152 x203) 1) high153) else (order_Find_k2 low152 (ad low152 x203)))
noncomputable def order_Find_l1 (l1 : List Int) (n2 : Int) (s : (Int × Int)) : Option (Int × Bool) := loopO (fun s => order_Find_b1_0 l1 n2 s.1 s.2) s
noncomputable def order_Find_k3 (l1 : List Int) (n2 : Int) (low226 : Int) (high227 : Int) : Option (Int × Bool) :=
  order_Find_l1 l1 n2 (low226, high227)
noncomputable def order_Find (l1 : List Int) (n2 : Int) : Option (Int × Bool) :=
  if (decide (0 = (l1.length : Int))) then ((gd (decide (0 < (l1.length : Int))) (ix l1 0) 0).bind fun x215 => (some ((decide (0 < (l1.length : Int))) && (decide (x215 = n2)))).bind fun x216 => some (0, x216)) else ((quK .i64 (sb (l1.length : Int) 0) 2).bind fun x230 => (ix l1 (ad 0 x230)).bind fun x232 => if (decide (x232 < n2)) then (order_Find_k3 l1 n2 (ad (ad 0 x230) 1) (l1.length : Int)) else (order_Find_k3 l1 n2 0 (ad 0 x230)))
noncomputable def order_Strips_b1 (l1 : List Int) (n2 : Int) (r45 : Int × Bool) (last58 : Int) : Option (Int ⊕ (Int × Int)) :=
  (some (r45.2 && (decide (last58 < (l1.length : Int))))).bind fun x70 => (gd x70 (ix l1 last58) 0).bind fun x71 => if (x70 && (decide (x71 = n2))) then (some (Sum.inl (ad last58 1))) else (Option.map Sum.inr (some (r45.1, last58)))
noncomputable def order_Strips_l1 (l1 : List Int) (n2 : Int) (r45 : Int × Bool) (s : Int) : Option (Int × Int) := loopO (fun s => order_Strips_b1 l1 n2 r45 s) s
noncomputable def order_Strips (l1 : List Int) (n2 : Int) : Option (Int × Int) :=
  (order_Find l1 n2).bind fun r45 => order_Strips_l1 l1 n2 r45 r45.1
noncomputable def order_Common (l1 : List Int) (x2 : Int) (b3 : Int) : Option (Bool) :=
  (order_Strips l1 x2).bind fun r19 => (order_Strips l1 b3).bind fun r21 => (some ((decide (r19.1 ≤ r21.2)) && (decide (r21.1 ≤ r19.2)))).bind fun x23 => some x23
noncomputable def exact_Box_b1 (l1 : List (Int × Int)) (low146 : Int × Int) (high148 : Int × Int) (x149 : Int) : Option (((Int × Int) × (Int × Int) × Int) ⊕ ((Int × Int) × (Int × Int) × Bool)) :=
  if (decide (x149 < (l1.length : Int))) then ((ix l1 x149).bind fun x175 => some (Sum.inl ((mn low146.1 x175.1, mn low146.2 x175.2), (mx high148.1 x175.1, mx high148.2 x175.2), ad x149 1))) else (Option.map Sum.inr (some (low146, high148, true)))
noncomputable def exact_Box_l1 (l1 : List (Int × Int)) (s : (Int × Int) × (Int × Int) × Int) : Option ((Int × Int) × (Int × Int) × Bool) := loopO (fun s => exact_Box_b1 l1 s.1 s.2.1 s.2.2) s
noncomputable def exact_Box (l1 : List (Int × Int)) : Option ((Int × Int) × (Int × Int) × Bool) :=
  (gd (!(decide ((l1.length : Int) = 0))) (exact_Right l1) false).bind fun r107 => (some ((decide ((l1.length : Int) = 0)) || (!r107))).bind fun x108 => if x108 then (some ((0, 0), (0, 0), false)) else ((ix l1 0).bind fun x115 => (ix l1 0).bind fun x116 => exact_Box_l1 l1 (x115, x116, 0))
noncomputable def rows_Of (l1 : List (Int × Int)) : Option (((Int × Int) × (Int × Int)) × Bool) :=
  (exact_Box l1).bind fun r27 => some ((r27.1, r27.2.1), r27.2.2)
noncomputable def rows_Meet (x1 : (Int × Int) × (Int × Int)) (b2 : (Int × Int) × (Int × Int)) : Option (Bool) :=
  (rows_Right x1).bind fun r26 => (gd r26 (rows_Right b2) false).bind fun r27 => (some ((r26 && r27) && (decide (x1.1.1 ≤ b2.2.1)))).bind fun x28 => (some ((x28 && (decide (b2.1.1 ≤ x1.2.1))) && (decide (x1.1.2 ≤ b2.2.2)))).bind fun x29 => some (x29 && (decide (b2.1.2 ≤ x1.2.2)))
noncomputable def slices_Compact_int_int_k3 (k1624 : Int) (s1775 : List Int) (k1777 : Int) : Option (((List Int) × Int × Int) ⊕ (Int ⊕ (List Int))) :=
  some (Sum.inl (s1775, k1777, ad k1624 1))
noncomputable def slices_Compact_int_int_b2 (k1219 : Int) (n1530 : Int) (s1621 : List Int) (k1623 : Int) (k1624 : Int) : Option (((List Int) × Int × Int) ⊕ (Int ⊕ (List Int))) :=
  if (decide (k1624 < (n1530 - k1219))) then ((wn k1219 n1530 k1624).bind fun q1781 => (ix s1621 q1781).bind fun x1782 => (wn k1219 n1530 (sb k1624 1)).bind fun q1783 => (ix s1621 q1783).bind fun x1784 => if (!decide (x1782 = x1784)) then ((wn k1219 n1530 k1624).bind fun q1790 => (ix s1621 q1790).bind fun x1791 => (ix s1621 k1623).bind fun x1792 => (put s1621 k1623 x1791).bind fun l1793 => slices_Compact_int_int_k3 k1624 l1793 (ad k1623 1)) else (slices_Compact_int_int_k3 k1624 s1621 k1623)) else (Option.map Sum.inr ((cut s1621 k1623 (s1621.length : Int)).bind fun x1801 => (some (s1621.length : Int)).bind fun n1803 => (clr s1621 k1623 n1803 0).bind fun l1804 => (cut l1804 0 k1623).bind fun x1810 => Option.map Sum.inr (some x1810)))
noncomputable def slices_Compact_int_int_l2 (k1219 : Int) (n1530 : Int) (s : (List Int) × Int × Int) : Option (Int ⊕ (List Int)) := loopO (fun s => slices_Compact_int_int_b2 k1219 n1530 s.1 s.2.1 s.2.2) s
noncomputable def slices_Compact_int_int_b1 (s1 : List Int) (k1219 : Int) : Option (Int ⊕ (List Int)) :=
  if (decide (k1219 < (s1.length : Int))) then ((ix s1 k1219).bind fun x1524 => (ix s1 (sb k1219 1)).bind fun x1525 => if (decide (x1524 = x1525)) then ((cut s1 k1219 (s1.length : Int)).bind fun x1528 => (some (s1.length : Int)).bind fun n1530 => slices_Compact_int_int_l2 k1219 n1530 (s1, k1219, 1)) else (some (Sum.inl (ad k1219 1)))) else (Option.map Sum.inr (some s1))
noncomputable def slices_Compact_int_int_l1 (s1 : List Int) (s : Int) : Option (List Int) := loopO (fun s => slices_Compact_int_int_b1 s1 s) s
noncomputable def slices_Compact_int_int (s1 : List Int) : Option (List Int) :=
  if (decide ((s1.length : Int) < 2)) then (some s1) else (slices_Compact_int_int_l1 s1 1)
end Go.Proofs.Ytoccfdohlefifaa
