import Derived.Test.YtoccfdohlefifaaSp1
namespace Go.Proofs.Ytoccfdohlefifaa
set_option linter.unusedVariables false
noncomputable def order_Find_k2 (low199 : Int) (high200 : Int) : Option (((Int × Int)) ⊕ (Int × Bool)) :=
  some (Sum.inl (low199, high200))
noncomputable def order_Find_b1_0 (l1 : List Int) (n2 : Int) (low152 : Int) (high153 : Int) : Option (((Int × Int)) ⊕ (Int × Bool)) :=
  if (decide (low152 = high153)) then ((gd (decide (low152 < (l1.length : Int))) (ix l1 low152) 0).bind fun x188 => (some ((decide (low152 < (l1.length : Int))) && (decide (x188 = n2)))).bind fun x189 => Option.map Sum.inr (some (low152, x189))) else ((quK .i64 (sb high153 low152) 2).bind fun x203 => (ix l1 (ad low152 x203)).bind fun x205 => if (decide (x205 < n2)) then (order_Find_k2 (ad (ad low152 x203) 1) high153) else (order_Find_k2 low152 (ad low152 x203)))
noncomputable def order_Find_l1 (l1 : List Int) (n2 : Int) (s : (Int × Int)) : Option (Int × Bool) := loopO (fun s => order_Find_b1_0 l1 n2 s.1 s.2) s
noncomputable def order_Find_k3 (l1 : List Int) (n2 : Int) (low226 : Int) (high227 : Int) : Option (Int × Bool) :=
  order_Find_l1 l1 n2 (low226, high227)
noncomputable def order_Find (l1 : List Int) (n2 : Int) : Option (Int × Bool) :=
  if (decide (0 = (l1.length : Int))) then ((gd (decide (0 < (l1.length : Int))) (ix l1 0) 0).bind fun x215 => (some ((decide (0 < (l1.length : Int))) && (decide (x215 = n2)))).bind fun x216 => some (0, x216)) else ((quK .i64 (sb (l1.length : Int) 0) 2).bind fun x230 => (ix l1 (ad 0 x230)).bind fun x232 => if (decide (x232 < n2)) then (order_Find_k3 l1 n2 (ad (ad 0 x230) 1) (l1.length : Int)) else (order_Find_k3 l1 n2 0 (ad 0 x230)))
noncomputable def order_Strips_b1 (l1 : List Int) (n2 : Int) (r45 : Int × Bool) (last58 : Int) : Option (Int ⊕ (Int × Int)) :=
  (some (r45.2 && (decide (last58 < (l1.length : Int))))).bind fun x70 => (gd x70 (ix l1 last58) 0).bind fun x71 => if (x70 && (decide (x71 = n2))) then (some (Sum.inl (ad last58 1))) else (Option.map Sum.inr (some (r45.1, last58)))
noncomputable def order_Strips_l1 (l1 : List Int) (n2 : Int) (r45 : Int × Bool) (s : Int) : Option (Int × Int) := loopO (fun s => order_Strips_b1 l1 n2 r45 s) s
noncomputable def order_Strips (l1 : List Int) (n2 : Int) : Option (Int × Int) :=
  (order_Find l1 n2).bind fun r45 => order_Strips_l1 l1 n2 r45 r45.1
noncomputable def order_Common (l1 : List Int) (x2 : Int) (b3 : Int) : Option (Bool) :=
  (order_Strips l1 x2).bind fun r19 => (order_Strips l1 b3).bind fun r21 => (some ((decide (r19.1 ≤ r21.2)) && (decide (r21.1 ≤ r19.2)))).bind fun x23 => some x23
noncomputable def exact_Box_b1 (l1 : List (Int × Int)) (low146 : Int × Int) (high148 : Int × Int) (x149 : Int) : Option (((Int × Int) × (Int × Int) × Int) ⊕ ((Int × Int) × (Int × Int) × Bool)) :=
  if (decide (x149 < (l1.length : Int))) then ((ix l1 x149).bind fun x175 => some (Sum.inl ((mn low146.1 x175.1, mn low146.2 x175.2), (mx high148.1 x175.1, mx high148.2 x175.2), ad x149 1))) else (Option.map Sum.inr (some (low146, high148, true)))
noncomputable def exact_Box_l1 (l1 : List (Int × Int)) (s : (Int × Int) × (Int × Int) × Int) : Option ((Int × Int) × (Int × Int) × Bool) := loopO (fun s => exact_Box_b1 l1 s.1 s.2.1 s.2.2) s
noncomputable def exact_Box (l1 : List (Int × Int)) : Option ((Int × Int) × (Int × Int) × Bool) :=
  (gd (!(decide ((l1.length : Int) = 0))) (exact_Right l1) false).bind fun r107 => (some ((decide ((l1.length : Int) = 0)) || (!r107))).bind fun x108 => if x108 then (some ((0, 0), (0, 0), false)) else ((ix l1 0).bind fun x115 => (ix l1 0).bind fun x116 => exact_Box_l1 l1 (x115, x116, 0))
noncomputable def rows_Of (l1 : List (Int × Int)) : Option (((Int × Int) × (Int × Int)) × Bool) :=
  (exact_Box l1).bind fun r27 => some ((r27.1, r27.2.1), r27.2.2)
noncomputable def rows_Meet (x1 : (Int × Int) × (Int × Int)) (b2 : (Int × Int) × (Int × Int)) : Option (Bool) :=
  (rows_Right x1).bind fun r26 => (gd r26 (rows_Right b2) false).bind fun r27 => (some ((r26 && r27) && (decide (x1.1.1 ≤ b2.2.1)))).bind fun x28 => (some ((x28 && (decide (b2.1.1 ≤ x1.2.1))) && (decide (x1.1.2 ≤ b2.2.2)))).bind fun x29 => some (x29 && (decide (b2.1.2 ≤ x1.2.2)))
noncomputable def slices_Compact_int_int_k3 (k1624 : Int) (s1775 : List Int) (k1777 : Int) : Option (((List Int) × Int × Int) ⊕ (Int ⊕ (List Int))) :=
  some (Sum.inl (s1775, k1777, ad k1624 1))
noncomputable def slices_Compact_int_int_b2 (k1219 : Int) (n1530 : Int) (s1621 : List Int) (k1623 : Int) (k1624 : Int) : Option (((List Int) × Int × Int) ⊕ (Int ⊕ (List Int))) :=
  if (decide (k1624 < (n1530 - k1219))) then ((wn k1219 n1530 k1624).bind fun q1781 => (ix s1621 q1781).bind fun x1782 => (wn k1219 n1530 (sb k1624 1)).bind fun q1783 => (ix s1621 q1783).bind fun x1784 => if (!decide (x1782 = x1784)) then ((wn k1219 n1530 k1624).bind fun q1790 => (ix s1621 q1790).bind fun x1791 => (ix s1621 k1623).bind fun x1792 => (put s1621 k1623 x1791).bind fun l1793 => slices_Compact_int_int_k3 k1624 l1793 (ad k1623 1)) else (slices_Compact_int_int_k3 k1624 s1621 k1623)) else (Option.map Sum.inr ((cut s1621 k1623 (s1621.length : Int)).bind fun x1801 => (some (s1621.length : Int)).bind fun n1803 => (clr s1621 k1623 n1803 0).bind fun l1804 => (cut l1804 0 k1623).bind fun x1810 => Option.map Sum.inr (some x1810)))
noncomputable def slices_Compact_int_int_l2 (k1219 : Int) (n1530 : Int) (s : (List Int) × Int × Int) : Option (Int ⊕ (List Int)) := loopO (fun s => slices_Compact_int_int_b2 k1219 n1530 s.1 s.2.1 s.2.2) s
noncomputable def slices_Compact_int_int_b1 (s1 : List Int) (k1219 : Int) : Option (Int ⊕ (List Int)) :=
  if (decide (k1219 < (s1.length : Int))) then ((ix s1 k1219).bind fun x1524 => (ix s1 (sb k1219 1)).bind fun x1525 => if (decide (x1524 = x1525)) then ((cut s1 k1219 (s1.length : Int)).bind fun x1528 => (some (s1.length : Int)).bind fun n1530 => slices_Compact_int_int_l2 k1219 n1530 (s1, k1219, 1)) else (some (Sum.inl (ad k1219 1)))) else (Option.map Sum.inr (some s1))
noncomputable def slices_Compact_int_int_l1 (s1 : List Int) (s : Int) : Option (List Int) := loopO (fun s => slices_Compact_int_int_b1 s1 s) s
noncomputable def slices_Compact_int_int (s1 : List Int) : Option (List Int) :=
  if (decide ((s1.length : Int) < 2)) then (some s1) else (slices_Compact_int_int_l1 s1 1)
noncomputable def slices_Clone_int_int (s1 : List Int) : Option (List Int) :=
  (app ([] : List Int) s1).bind fun x28 => some x28
noncomputable def order_Uniq_1 (x1 : Int) (y2 : Int) : Option (Bool) :=
  some (decide (x1 < y2))
noncomputable def order_merged_int_Uniq_1_b1_0 (x254 : List Int) (b257 : List Int) (out260 : List Int) : Option ((((List Int) × (List Int) × (List Int))) ⊕ (List Int)) :=
  (some ((decide ((x254.length : Int) = 0)) || (decide ((b257.length : Int) = 0)))).bind fun x310 => if x310 then ((app out260 x254).bind fun x313 => (app x313 b257).bind fun x316 => Option.map Sum.inr (some x316)) else ((ix b257 0).bind fun x321 => (ix x254 0).bind fun x322 => (order_Uniq_1 x321 x322).bind fun r323 => if r323 then ((ix b257 0).bind fun x329 => (app out260 [x329]).bind fun x332 => (cut b257 1 (b257.length : Int)).bind fun x335 => some (Sum.inl (x254, x335, x332))) else ((ix x254 0).bind fun x341 => (app out260 [x341]).bind fun x344 => (cut x254 1 (x254.length : Int)).bind fun x347 => some (Sum.inl (x347, b257, x344))))
noncomputable def order_merged_int_Uniq_1_l1 (s : ((List Int) × (List Int) × (List Int))) : Option (List Int) := loopO (fun s => order_merged_int_Uniq_1_b1_0 s.1 s.2.1 s.2.2) s
noncomputable def order_merged_int_Uniq_1 (x1 : List Int) (b2 : List Int) : Option (List Int) :=
  (some (ad (x1.length : Int) (b2.length : Int))).bind fun x350 => (mk0 Int x350).bind fun x351 => (some ((decide ((x1.length : Int) = 0)) || (decide ((b2.length : Int) = 0)))).bind fun x357 => if x357 then ((app x351 x1).bind fun x360 => (app x360 b2).bind fun x363 => some x363) else ((ix b2 0).bind fun x368 => (ix x1 0).bind fun x369 => (order_Uniq_1 x368 x369).bind fun r370 => if r370 then ((ix b2 0).bind fun x376 => (app x351 [x376]).bind fun x379 => (cut b2 1 (b2.length : Int)).bind fun x382 => order_merged_int_Uniq_1_l1 (x1, x382, x379)) else ((ix x1 0).bind fun x388 => (app x351 [x388]).bind fun x391 => (cut x1 1 (x1.length : Int)).bind fun x394 => order_merged_int_Uniq_1_l1 (x394, b2, x391)))
noncomputable def order_sorted_int_Uniq_1_b2 (run452 : Int) (out599 : List Int) (x601 : Int) : Option (((List Int) × Int) ⊕ (((List Int) × Int) ⊕ (List Int))) :=
  if (decide ((ad x601 run452) < (out599.length : Int))) then ((some (mn (ad x601 (ml 2 run452)) (out599.length : Int))).bind fun x640 => (cut out599 x601 x640).bind fun x651 => (cut out599 x601 (ad x601 run452)).bind fun x653 => (cut out599 (ad x601 run452) x640).bind fun x655 => (order_merged_int_Uniq_1 x653 x655).bind fun r657 => (cpy out599 x601 x640 r657).bind fun l660 => some (Sum.inl (l660, ad x601 (ml 2 run452)))) else (Option.map Sum.inr (some (Sum.inl (out599, ml run452 2))))
noncomputable def order_sorted_int_Uniq_1_l2 (run452 : Int) (s : (List Int) × Int) : Option (((List Int) × Int) ⊕ (List Int)) := loopO (fun s => order_sorted_int_Uniq_1_b2 run452 s.1 s.2) s
noncomputable def order_sorted_int_Uniq_1_b1 (out450 : List Int) (run452 : Int) : Option (((List Int) × Int) ⊕ (List Int)) :=
  if (decide (run452 < (out450.length : Int))) then (order_sorted_int_Uniq_1_l2 run452 (out450, 0)) else (Option.map Sum.inr (some out450))
noncomputable def order_sorted_int_Uniq_1_l1 (s : (List Int) × Int) : Option (List Int) := loopO (fun s => order_sorted_int_Uniq_1_b1 s.1 s.2) s
noncomputable def order_sorted_int_Uniq_1 (l1 : List Int) : Option (List Int) :=
  (slices_Clone_int_int l1).bind fun r340 => order_sorted_int_Uniq_1_l1 (r340, 1)
noncomputable def order_Uniq (l1 : List Int) : Option (List Int) :=
  (order_sorted_int_Uniq_1 l1).bind fun r20 => (slices_Compact_int_int r20).bind fun r23 => some r23
end Go.Proofs.Ytoccfdohlefifaa
