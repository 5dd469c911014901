import Derived.Test.YtoccfdohlefifaaSp5
namespace Go.Proofs.Ytoccfdohlefifaa
set_option linter.unusedVariables false
noncomputable def guard_Guard_Has (g1 : (((List ((Int × Int) × (Int × Int))) × (List ((Int × Int) × (List Int))) × (List Int))) × (List Int) × (List (Int × Int)) × (List ((Int × Int) × Bool)) × (List (((Int × Int) × (Int × Int)) × Bool))) (p2 : Int × Int) : Option (Bool) :=
  (some (true && ((lkM g1.2.2.2.1 p2).getD false))).bind fun x19 => some x19
noncomputable def guard_Guard_Joined (g1 : (((List ((Int × Int) × (Int × Int))) × (List ((Int × Int) × (List Int))) × (List Int))) × (List Int) × (List (Int × Int)) × (List ((Int × Int) × Bool)) × (List (((Int × Int) × (Int × Int)) × Bool))) (x2 : Int × Int) (b3 : Int × Int) : Option (Bool) :=
  (gd true (guard_between x2 b3) ((0, 0), (0, 0))).bind fun r24 => (some (true && ((lkM g1.2.2.2.2 r24).getD false))).bind fun x25 => some x25
noncomputable def ref18_Drop_k2 (i836 : Int) (out1017 : List (Int × Int)) : Option (((List (Int × Int)) × Int) ⊕ (((List Int) × (List (Int × Int)) × (List ((Int × Int) × (Int × Int)))) × Bool)) :=
  some (Sum.inl (out1017, ad i836 1))
noncomputable def ref18_Drop_k4 (i1160 : Int) (out1362 : List ((Int × Int) × (Int × Int))) : Option (((List ((Int × Int) × (Int × Int))) × Int) ⊕ (((List Int) × (List (Int × Int)) × (List ((Int × Int) × (Int × Int)))) × Bool)) :=
  some (Sum.inl (out1362, ad i1160 1))
noncomputable def ref18_Drop_b3 (g1 : (List Int) × (List (Int × Int)) × (List ((Int × Int) × (Int × Int)))) (x2 : Int × Int) (b3 : Int × Int) (c4 : Int × Int) (out834 : List (Int × Int)) (out1158 : List ((Int × Int) × (Int × Int))) (i1160 : Int) : Option (((List ((Int × Int) × (Int × Int))) × Int) ⊕ (((List Int) × (List (Int × Int)) × (List ((Int × Int) × (Int × Int)))) × Bool)) :=
  if (decide (i1160 < (g1.2.2.length : Int))) then ((ix g1.2.2 i1160).bind fun x1367 => (ref18_joins x1367 x2 b3).bind fun r1368 => (gd (!r1368) (ix g1.2.2 i1160) ((0, 0), (0, 0))).bind fun x1369 => (gd (!r1368) (ref18_joins x1369 b3 c4) false).bind fun r1370 => if ((!r1368) && (!r1370)) then ((ix g1.2.2 i1160).bind fun x1382 => (app out1158 [x1382]).bind fun x1385 => ref18_Drop_k4 i1160 x1385) else (ref18_Drop_k4 i1160 out1158)) else (Option.map Sum.inr ((app out1158 [(x2, c4)]).bind fun x1399 => some ((g1.1, out834, x1399), true)))
noncomputable def ref18_Drop_l3 (g1 : (List Int) × (List (Int × Int)) × (List ((Int × Int) × (Int × Int)))) (x2 : Int × Int) (b3 : Int × Int) (c4 : Int × Int) (out834 : List (Int × Int)) (s : (List ((Int × Int) × (Int × Int))) × Int) : Option (((List Int) × (List (Int × Int)) × (List ((Int × Int) × (Int × Int)))) × Bool) := loopO (fun s => ref18_Drop_b3 g1 x2 b3 c4 out834 s.1 s.2) s
noncomputable def ref18_Drop_b1 (g1 : (List Int) × (List (Int × Int)) × (List ((Int × Int) × (Int × Int)))) (x2 : Int × Int) (b3 : Int × Int) (c4 : Int × Int) (out834 : List (Int × Int)) (i836 : Int) : Option (((List (Int × Int)) × Int) ⊕ (((List Int) × (List (Int × Int)) × (List ((Int × Int) × (Int × Int)))) × Bool)) :=
  if (decide (i836 < (g1.2.1.length : Int))) then ((ix g1.2.1 i836).bind fun x1022 => if (!decide (x1022 = b3)) then ((ix g1.2.1 i836).bind fun x1034 => (app out834 [x1034]).bind fun x1037 => ref18_Drop_k2 i836 x1037) else (ref18_Drop_k2 i836 out834)) else (Option.map Sum.inr (ref18_Drop_l3 g1 x2 b3 c4 out834 (([] : List ((Int × Int) × (Int × Int))), 0)))
noncomputable def ref18_Drop_l1 (g1 : (List Int) × (List (Int × Int)) × (List ((Int × Int) × (Int × Int)))) (x2 : Int × Int) (b3 : Int × Int) (c4 : Int × Int) (s : (List (Int × Int)) × Int) : Option (((List Int) × (List (Int × Int)) × (List ((Int × Int) × (Int × Int)))) × Bool) := loopO (fun s => ref18_Drop_b1 g1 x2 b3 c4 s.1 s.2) s
noncomputable def ref18_Drop (g1 : (List Int) × (List (Int × Int)) × (List ((Int × Int) × (Int × Int)))) (x2 : Int × Int) (b3 : Int × Int) (c4 : Int × Int) : Option (((List Int) × (List (Int × Int)) × (List ((Int × Int) × (Int × Int)))) × Bool) :=
  (ref18_Why g1 x2 b3 c4).bind fun r721 => if (!decide (r721 = 0)) then (some (g1, false)) else (ref18_Drop_l1 g1 x2 b3 c4 (([] : List (Int × Int)), 0))
noncomputable def ref03_Same_b1 (x1 : List (Int × Int)) (b2 : List (Int × Int)) (i78 : Int) : Option (Int ⊕ Bool) :=
  if (decide (i78 < (x1.length : Int))) then ((ix x1 i78).bind fun x98 => (ix b2 i78).bind fun x99 => if (!decide (x98 = x99)) then (Option.map Sum.inr (some false)) else (some (Sum.inl (ad i78 1)))) else (Option.map Sum.inr (some true))
noncomputable def ref03_Same_l1 (x1 : List (Int × Int)) (b2 : List (Int × Int)) (s : Int) : Option (Bool) := loopO (fun s => ref03_Same_b1 x1 b2 s) s
noncomputable def ref03_Same (x1 : List (Int × Int)) (b2 : List (Int × Int)) : Option (Bool) :=
  if (!decide ((x1.length : Int) = (b2.length : Int))) then (some false) else (ref03_Same_l1 x1 b2 0)
noncomputable def law03_Same (l1 : List (Int × Int)) (x2 : List (Int × Int)) : Option (Bool) :=
  (law01_Ofs l1).bind fun r18 => (ref03_Same r18 x2).bind fun r21 => some r21
noncomputable def slices_Clone_api_Point_api_Point (s1 : List (Int × Int)) : Option (List (Int × Int)) :=
  (app ([] : List (Int × Int)) s1).bind fun x28 => some x28
noncomputable def order_merged_api_Point_Less_b1_0 (x254 : List (Int × Int)) (b257 : List (Int × Int)) (out260 : List (Int × Int)) : Option ((((List (Int × Int)) × (List (Int × Int)) × (List (Int × Int)))) ⊕ (List (Int × Int))) :=
  (some ((decide ((x254.length : Int) = 0)) || (decide ((b257.length : Int) = 0)))).bind fun x310 => if x310 then ((app out260 x254).bind fun x313 => (app x313 b257).bind fun x316 => Option.map Sum.inr (some x316)) else ((ix b257 0).bind fun x321 => (ix x254 0).bind fun x322 => (exact_Less x321 x322).bind fun r323 => if r323 then ((ix b257 0).bind fun x329 => (app out260 [x329]).bind fun x332 => (cut b257 1 (b257.length : Int)).bind fun x335 => some (Sum.inl (x254, x335, x332))) else ((ix x254 0).bind fun x341 => (app out260 [x341]).bind fun x344 => (cut x254 1 (x254.length : Int)).bind fun x347 => some (Sum.inl (x347, b257, x344))))
noncomputable def order_merged_api_Point_Less_l1 (s : ((List (Int × Int)) × (List (Int × Int)) × (List (Int × Int)))) : Option (List (Int × Int)) := loopO (fun s => order_merged_api_Point_Less_b1_0 s.1 s.2.1 s.2.2) s
noncomputable def order_merged_api_Point_Less (x1 : List (Int × Int)) (b2 : List (Int × Int)) : Option (List (Int × Int)) :=
  (some (ad (x1.length : Int) (b2.length : Int))).bind fun x350 => (mk0 (Int × Int) x350).bind fun x351 => (some ((decide ((x1.length : Int) = 0)) || (decide ((b2.length : Int) = 0)))).bind fun x357 => if x357 then ((app x351 x1).bind fun x360 => (app x360 b2).bind fun x363 => some x363) else ((ix b2 0).bind fun x368 => (ix x1 0).bind fun x369 => (exact_Less x368 x369).bind fun r370 => if r370 then ((ix b2 0).bind fun x376 => (app x351 [x376]).bind fun x379 => (cut b2 1 (b2.length : Int)).bind fun x382 => order_merged_api_Point_Less_l1 (x1, x382, x379)) else ((ix x1 0).bind fun x388 => (app x351 [x388]).bind fun x391 => (cut x1 1 (x1.length : Int)).bind fun x394 => order_merged_api_Point_Less_l1 (x394, b2, x391)))
noncomputable def order_sorted_api_Point_Less_b2 (run452 : Int) (out599 : List (Int × Int)) (x601 : Int) : Option (((List (Int × Int)) × Int) ⊕ (((List (Int × Int)) × Int) ⊕ (List (Int × Int)))) :=
  if (decide ((ad x601 run452) < (out599.length : Int))) then ((some (mn (ad x601 (ml 2 run452)) (out599.length : Int))).bind fun x640 => (cut out599 x601 x640).bind fun x651 => (cut out599 x601 (ad x601 run452)).bind fun x653 => (cut out599 (ad x601 run452) x640).bind fun x655 => (order_merged_api_Point_Less x653 x655).bind fun r657 => (cpy out599 x601 x640 r657).bind fun l660 => some (Sum.inl (l660, ad x601 (ml 2 run452)))) else (Option.map Sum.inr (some (Sum.inl (out599, ml run452 2))))
noncomputable def order_sorted_api_Point_Less_l2 (run452 : Int) (s : (List (Int × Int)) × Int) : Option (((List (Int × Int)) × Int) ⊕ (List (Int × Int))) := loopO (fun s => order_sorted_api_Point_Less_b2 run452 s.1 s.2) s
noncomputable def order_sorted_api_Point_Less_b1 (out450 : List (Int × Int)) (run452 : Int) : Option (((List (Int × Int)) × Int) ⊕ (List (Int × Int))) :=
  if (decide (run452 < (out450.length : Int))) then (order_sorted_api_Point_Less_l2 run452 (out450, 0)) else (Option.map Sum.inr (some out450))
noncomputable def order_sorted_api_Point_Less_l1 (s : (List (Int × Int)) × Int) : Option (List (Int × Int)) := loopO (fun s => order_sorted_api_Point_Less_b1 s.1 s.2) s
noncomputable def order_sorted_api_Point_Less (l1 : List (Int × Int)) : Option (List (Int × Int)) :=
  (slices_Clone_api_Point_api_Point l1).bind fun r340 => order_sorted_api_Point_Less_l1 (r340, 1)
noncomputable def order_Points (l1 : List (Int × Int)) : Option (List (Int × Int)) :=
  (order_sorted_api_Point_Less l1).bind fun r17 => some r17
noncomputable def guard_Guard_Points_b1 (out120 : List (Int × Int)) (L123 : List ((Int × Int) × Bool)) (q147 : Nat) : Option (((List (Int × Int)) × (List ((Int × Int) × Bool))) ⊕ (List (Int × Int))) :=
  if (decide (q147 < L123.length)) then ((some (L123.getD q147 ((0, 0), false))).bind fun e152 => (app out120 [e152.1]).bind fun x161 => some (Sum.inl (x161, (L123.eraseIdx q147)))) else (Option.map Sum.inr ((order_Points out120).bind fun r165 => some r165))
noncomputable def guard_Guard_Points_l1 (s : (List (Int × Int)) × (List ((Int × Int) × Bool))) : Option (List (Int × Int)) := loopQ (fun (s : (List (Int × Int)) × (List ((Int × Int) × Bool))) => (s.2).length) (fun (s : (List (Int × Int)) × (List ((Int × Int) × Bool))) q => guard_Guard_Points_b1 s.1 s.2 q) s
noncomputable def guard_Guard_Points (g1 : (((List ((Int × Int) × (Int × Int))) × (List ((Int × Int) × (List Int))) × (List Int))) × (List Int) × (List (Int × Int)) × (List ((Int × Int) × Bool)) × (List (((Int × Int) × (Int × Int)) × Bool))) : Option (List (Int × Int)) :=
  guard_Guard_Points_l1 (([] : List (Int × Int)), g1.2.2.2.1)
noncomputable def ref01_Less (x1 : Int × Int) (b2 : Int × Int) : Option (Bool) :=
  if (!decide (x1.1 = b2.1)) then (some (decide (x1.1 < b2.1))) else (some (decide (x1.2 < b2.2)))
end Go.Proofs.Ytoccfdohlefifaa
