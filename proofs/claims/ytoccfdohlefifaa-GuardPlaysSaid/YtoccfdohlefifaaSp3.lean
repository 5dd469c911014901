import Derived.Test.YtoccfdohlefifaaSp2
namespace Go.Proofs.Ytoccfdohlefifaa
set_option linter.unusedVariables false
noncomputable def slices_Clone_int_int (s1 : List Int) : Option (List Int) :=
  (app ([] : List Int) s1).bind fun x28 => some x28
noncomputable def order_Uniq_1 (x1 : Int) (y2 : Int) : Option (Bool) :=
  some (decide (x1 < y2))
noncomputable def order_merged_int_Uniq_1_b1_0 (x254 : List Int) (b257 : List Int) (out260 : List Int) : Option ((((List Int) × (List Int) × (List Int))) ⊕ (List Int)) :=
  (some ((decide ((x254.length : Int) = 0)) || (decide ((b257.length : Int) = 0)))).bind fun x310 => if x310 then ((app out260 x254).bind fun x313 => (app x313 b257).bind fun x316 => Option.map Sum.inr (some x316)) else ((ix b257 0).bind fun x321 => (ix x254 0).bind fun x322 => (order_Uniq_1 x321 x322).bind fun r323 => if r323 then ((ix b257 0).bind fun x329 => (app out260 [x329]).bind fun x332 => (cut b257 1 (b257.length : Int)).bind fun x335 => some (Sum.inl (x254, x335, x332))) else ((ix x254 0).bind fun x341 => (app out260 [x341]).bind fun x344 => (cut x254 1 (x254.length : Int)).bind fun x347 => some (Sum.inl (x347, b257, x344))))
noncomputable def order_merged_int_Uniq_1_l1 (s : ((List Int) × (List Int) × (List Int))) : Option (List Int) := loopO (fun s => order_merged_int_Uniq_1_b1_0 s.1 s.2.1 s.2.2) s
noncomputable def order_merged_int_Uniq_1 (x1 : List Int) (b2 : List Int) : Option (List Int) :=
  (some (ad (x1.length : Int) (b2.length : Int))).bind fun x350 => (mk0 Int x350).bind fun x351 => (some ((decide ((x1.length : Int) = 0)) || (decide ((b2.length : Int) = 0)))).bind fun x357 => if x357 then ((app x351 x1).bind fun x360 => (app x360 b2).bind fun x363 => some x363) else ((ix b2 0).bind fun x368 => (ix x1 0).bind fun x369 => (order_Uniq_1 x368 x369).bind fun r370 => if r370 then ((ix b2 0).bind fun x376 => (app x351 [x376]).bind fun x379 => (cut b2 1 (b2.length : Int)).bind fun x382 => order_merged_int_Uniq_1_l1 (x1, x382, x379)) else ((ix x1 0).bind fun x388 => (app x351 [x388]).bind fun x391 => (cut x1 1 (x1.length : Int)).bind fun x394 => order_merged_int_Uniq_1_l1 (x394, b2, x391)))
noncomputable def order_sorted_int_Uniq_1_b2 (run452 : Int) (out599 : List Int) (x601 : Int) : Option (((List Int) × Int) ⊕ (((List Int) × Int) ⊕ (List Int))) :=
  if (decide ((ad x601 run452) < (out599.length : Int))) then ((some (mn (ad x601 (ml 2 run452)) (out599.length : Int))).bind fun x640 => (cut out599 x601 x640).bind fun x651 => (cut out599 x601 (ad x601 run452)).bind fun x653 => (cut out599 (ad x601 run452) x640).bind fun x655 => (order_merged_int_Uniq_1 x653 x655).bind fun r657 => (cpy out599 x601 x640 r657).bind fun l660 => some (Sum.inl (l660, ad x601 (ml 2 run452)))) else (Option.map Sum.inr (some (Sum.inl (out599, ml run452 2))))
noncomputable def order_sorted_int_Uniq_1_l2 (run452 : Int) (s : (List Int) × Int) : Option (((List Int) × Int) ⊕ (List Int)) := loopO (fun s => order_sorted_int_Uniq_1_b2 run452 s.1 s.2) s
noncomputable def order_sorted_int_Uniq_1_b1 (out450 : List Int) (run452 : Int) : Option (((List Int) × Int) ⊕ (List Int)) :=
  if (decide (run452 < (out450.length : Int))) then (order_sorted_int_Uniq_1_l2 run452 (out450, 0)) else (Option.map Sum.inr (some out450))
noncomputable def order_sorted_int_Uniq_1_l1 (s : (List Int) × Int) : Option (List Int) := loopO (fun s => order_sorted_int_Uniq_1_b1 s.1 s.2) s
noncomputable def order_sorted_int_Uniq_1 (l1 : List Int) : Option (List Int) :=
  (slices_Clone_int_int l1).bind fun r340 => order_sorted_int_Uniq_1_l1 (r340, 1)
noncomputable def order_Uniq (l1 : List Int) : Option (List Int) :=
  (order_sorted_int_Uniq_1 l1).bind fun r20 => (slices_Compact_int_int r20).bind fun r23 => some r23
noncomputable def rows_Index_Find_k2 (x3226 : Int) (out3421 : List Int) : Option (((List Int) × Int) ⊕ (List Int)) :=
  some (Sum.inl (out3421, ad x3226 1))
noncomputable def rows_Index_Find_b1 (x1 : (List ((Int × Int) × (Int × Int))) × (List ((Int × Int) × (List Int))) × (List Int)) (b2 : (Int × Int) × (Int × Int)) (out3224 : List Int) (x3226 : Int) : Option (((List Int) × Int) ⊕ (List Int)) :=
  if (decide (x3226 < (x1.1.length : Int))) then ((ix x1.1 x3226).bind fun x3426 => (rows_Meet b2 x3426).bind fun r3431 => if r3431 then ((app out3224 [x3226]).bind fun x3443 => rows_Index_Find_k2 x3226 x3443) else (rows_Index_Find_k2 x3226 out3224)) else (Option.map Sum.inr (some out3224))
noncomputable def rows_Index_Find_l1 (x1 : (List ((Int × Int) × (Int × Int))) × (List ((Int × Int) × (List Int))) × (List Int)) (b2 : (Int × Int) × (Int × Int)) (s : (List Int) × Int) : Option (List Int) := loopO (fun s => rows_Index_Find_b1 x1 b2 s.1 s.2) s
noncomputable def rows_Index_Find_k4 (x3561 : Int) (out3742 : List Int) : Option (((List Int) × Int) ⊕ (List Int)) :=
  some (Sum.inl (out3742, ad x3561 1))
noncomputable def rows_Index_Find_k6 (x5911 : Int) (out6133 : List Int) (met6136 : List (Int × Bool)) : Option (((List Int) × (List (Int × Bool)) × Int) ⊕ (((List Int) × (List (Int × Bool))) ⊕ Empty)) :=
  some (Sum.inl (out6133, met6136, ad x5911 1))
noncomputable def rows_Index_Find_b5 (x1 : (List ((Int × Int) × (Int × Int))) × (List ((Int × Int) × (List Int))) × (List Int)) (b2 : (Int × Int) × (Int × Int)) (x5372 : Int × Int) (out5907 : List Int) (met5910 : List (Int × Bool)) (x5911 : Int) : Option (((List Int) × (List (Int × Bool)) × Int) ⊕ (((List Int) × (List (Int × Bool))) ⊕ Empty)) :=
  if (decide (x5911 < (((lkM x1.2.1 x5372).getD []).length : Int))) then ((ix ((lkM x1.2.1 x5372).getD []) x5911).bind fun x6140 => (gd (!((lkM met5910 x6140).getD false)) (ix x1.1 x6140) ((0, 0), (0, 0))).bind fun x6143 => (gd (!((lkM met5910 x6140).getD false)) (rows_Meet b2 x6143) false).bind fun r6144 => (some (((lkM met5910 x6140).getD false) || (!r6144))).bind fun x6145 => if x6145 then (rows_Index_Find_k6 x5911 out5907 met5910) else ((some (upM met5910 x6140 true)).bind fun D6148 => (app out5907 [x6140]).bind fun x6160 => rows_Index_Find_k6 x5911 x6160 D6148)) else (Option.map Sum.inr (some (Sum.inl (out5907, met5910))))
noncomputable def rows_Index_Find_l5 (x1 : (List ((Int × Int) × (Int × Int))) × (List ((Int × Int) × (List Int))) × (List Int)) (b2 : (Int × Int) × (Int × Int)) (x5372 : Int × Int) (s : (List Int) × (List (Int × Bool)) × Int) : Option (((List Int) × (List (Int × Bool))) ⊕ Empty) := loopO (fun s => rows_Index_Find_b5 x1 b2 x5372 s.1 s.2.1 s.2.2) s
noncomputable def rows_Index_Find_b7 (x1 : (List ((Int × Int) × (Int × Int))) × (List ((Int × Int) × (List Int))) × (List Int)) (b2 : (Int × Int) × (Int × Int)) (out4574 : List Int) (met4576 : List (Int × Bool)) (x5372 : (Int × Int)) : Option (((List Int) × (List (Int × Bool))) ⊕ Empty) :=
  rows_Index_Find_l5 x1 b2 x5372 (out4574, met4576, 0)
noncomputable def rows_Index_Find_b8 (out4574 : List Int) (met4576 : List (Int × Bool)) : Option (List Int) :=
  (order_Uniq out4574).bind fun r6166 => some r6166
noncomputable def rows_Index_Find_b3 (x1 : (List ((Int × Int) × (Int × Int))) × (List ((Int × Int) × (List Int))) × (List Int)) (b2 : (Int × Int) × (Int × Int)) (out3559 : List Int) (x3561 : Int) : Option (((List Int) × Int) ⊕ (List Int)) :=
  if (decide (x3561 < (x1.2.2.length : Int))) then ((ix x1.2.2 x3561).bind fun x3747 => (ix x1.1 x3747).bind fun x3749 => (rows_Meet b2 x3749).bind fun r3750 => if r3750 then ((app out3559 [x3747]).bind fun x3762 => rows_Index_Find_k4 x3561 x3762) else (rows_Index_Find_k4 x3561 out3559)) else (Option.map Sum.inr (rngO (rows_fields_1 (((List Int) × (List (Int × Bool))) ⊕ Empty) (yb (fun (sr : (List Int) × (List (Int × Bool))) (xr : (Int × Int)) => rows_Index_Find_b7 x1 b2 sr.1 sr.2 xr)) (Sum.inl (out3559, ([] : List (Int × Bool)))) b2) (fun (sr : (List Int) × (List (Int × Bool))) => rows_Index_Find_b8 sr.1 sr.2) (fun (e : Empty) => nomatch e)))
noncomputable def rows_Index_Find_l3 (x1 : (List ((Int × Int) × (Int × Int))) × (List ((Int × Int) × (List Int))) × (List Int)) (b2 : (Int × Int) × (Int × Int)) (s : (List Int) × Int) : Option (List Int) := loopO (fun s => rows_Index_Find_b3 x1 b2 s.1 s.2) s
noncomputable def rows_Index_Find (x1 : (List ((Int × Int) × (Int × Int))) × (List ((Int × Int) × (List Int))) × (List Int)) (b2 : (Int × Int) × (Int × Int)) : Option (List Int) :=
  (gd (!false) (rows_Right b2) false).bind fun r3095 => if (false || (!r3095)) then (some ([] : List Int)) else ((rows_great b2).bind fun r3105 => if r3105 then (rows_Index_Find_l1 x1 b2 (([] : List Int), 0)) else (rows_Index_Find_l3 x1 b2 (([] : List Int), 0)))
noncomputable def exact_Cross (x1 : Int × Int) (b2 : Int × Int) (c3 : Int × Int) : Option (Int) :=
  (exact_Right [x1, b2, c3]).bind fun r37 => if (!r37) then (some 0) else ((some (sb (ml (sb b2.1 x1.1) (sb c3.2 x1.2)) (ml (sb b2.2 x1.2) (sb c3.1 x1.1)))).bind fun x41 => some x41)
end Go.Proofs.Ytoccfdohlefifaa
