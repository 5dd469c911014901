/-
  Chapter 04. Said plainly. No program in sight.
-/
import Derived.Test.YthbjlgklmamhjaaSp1
namespace Go.Proofs.Ythbjlgklmamhjaa
set_option linter.unusedVariables false
noncomputable def order_Compare (x1 : List Int) (b2 : List Int) : Option (Int) :=
  (slices_Compare_int_int x1 b2).bind fun r15 => some r15
noncomputable def order_Rows_1 (x1 : Int) (y2 : Int) (f2 : List (List Int)) : Option (Bool) :=
  (ix f2 x1).bind fun x19 => (ix f2 y2).bind fun x21 => (order_Compare x19 x21).bind fun r23 => some (decide (r23 < 0))
noncomputable def order_merged_int_Rows_1_b1_0 (ahead3_0 : List (List Int)) (x254 : List Int) (b257 : List Int) (out260 : List Int) : Option ((((List Int) × (List Int) × (List Int))) ⊕ (List Int)) :=
  (some ((decide ((x254.length : Int) = 0)) || (decide ((b257.length : Int) = 0)))).bind fun x310 => if x310 then ((app out260 x254).bind fun x313 => (app x313 b257).bind fun x316 => Option.map Sum.inr (some x316)) else ((ix b257 0).bind fun x321 => (ix x254 0).bind fun x322 => (order_Rows_1 x321 x322 ahead3_0).bind fun r323 => if r323 then ((ix b257 0).bind fun x329 => (app out260 [x329]).bind fun x332 => (cut b257 1 (b257.length : Int)).bind fun x335 => some (Sum.inl (x254, x335, x332))) else ((ix x254 0).bind fun x341 => (app out260 [x341]).bind fun x344 => (cut x254 1 (x254.length : Int)).bind fun x347 => some (Sum.inl (x347, b257, x344))))
noncomputable def order_merged_int_Rows_1_l1 (ahead3_0 : List (List Int)) (s : ((List Int) × (List Int) × (List Int))) : Option (List Int) := loopO (fun s => order_merged_int_Rows_1_b1_0 ahead3_0 s.1 s.2.1 s.2.2) s
noncomputable def order_merged_int_Rows_1 (x1 : List Int) (b2 : List Int) (ahead3_0 : List (List Int)) : Option (List Int) :=
  (some (ad (x1.length : Int) (b2.length : Int))).bind fun x350 => (mk0 Int x350).bind fun x351 => (some ((decide ((x1.length : Int) = 0)) || (decide ((b2.length : Int) = 0)))).bind fun x357 => if x357 then ((app x351 x1).bind fun x360 => (app x360 b2).bind fun x363 => some x363) else ((ix b2 0).bind fun x368 => (ix x1 0).bind fun x369 => (order_Rows_1 x368 x369 ahead3_0).bind fun r370 => if r370 then ((ix b2 0).bind fun x376 => (app x351 [x376]).bind fun x379 => (cut b2 1 (b2.length : Int)).bind fun x382 => order_merged_int_Rows_1_l1 ahead3_0 (x1, x382, x379)) else ((ix x1 0).bind fun x388 => (app x351 [x388]).bind fun x391 => (cut x1 1 (x1.length : Int)).bind fun x394 => order_merged_int_Rows_1_l1 ahead3_0 (x394, b2, x391)))
noncomputable def order_sorted_int_Rows_1_b2 (ahead2_0 : List (List Int)) (run452 : Int) (out599 : List Int) (x601 : Int) : Option (((List Int) × Int) ⊕ (((List Int) × Int) ⊕ (List Int))) :=
  if (decide ((ad x601 run452) < (out599.length : Int))) then ((some (mn (ad x601 (ml 2 run452)) (out599.length : Int))).bind fun x640 => (cut out599 x601 x640).bind fun x651 => (cut out599 x601 (ad x601 run452)).bind fun x653 => (cut out599 (ad x601 run452) x640).bind fun x655 => (order_merged_int_Rows_1 x653 x655 ahead2_0).bind fun r657 => (cpy out599 x601 x640 r657).bind fun l660 => some (Sum.inl (l660, ad x601 (ml 2 run452)))) else (Option.map Sum.inr (some (Sum.inl (out599, ml run452 2))))
noncomputable def order_sorted_int_Rows_1_l2 (ahead2_0 : List (List Int)) (run452 : Int) (s : (List Int) × Int) : Option (((List Int) × Int) ⊕ (List Int)) := loopO (fun s => order_sorted_int_Rows_1_b2 ahead2_0 run452 s.1 s.2) s
noncomputable def order_sorted_int_Rows_1_b1 (ahead2_0 : List (List Int)) (out450 : List Int) (run452 : Int) : Option (((List Int) × Int) ⊕ (List Int)) :=
  if (decide (run452 < (out450.length : Int))) then (order_sorted_int_Rows_1_l2 ahead2_0 run452 (out450, 0)) else (Option.map Sum.inr (some out450))
noncomputable def order_sorted_int_Rows_1_l1 (ahead2_0 : List (List Int)) (s : (List Int) × Int) : Option (List Int) := loopO (fun s => order_sorted_int_Rows_1_b1 ahead2_0 s.1 s.2) s
noncomputable def order_sorted_int_Rows_1 (l1 : List Int) (ahead2_0 : List (List Int)) : Option (List Int) :=
  (slices_Clone_int_int l1).bind fun r340 => order_sorted_int_Rows_1_l1 ahead2_0 (r340, 1)
noncomputable def order_Rows_b1 (l1 : List (List Int)) (numbers99 : List Int) (x101 : Int) : Option (((List Int) × Int) ⊕ (List Int)) :=
  if (decide (x101 < (l1.length : Int))) then ((app numbers99 [x101]).bind fun x130 => some (Sum.inl (x130, ad x101 1))) else (Option.map Sum.inr ((order_sorted_int_Rows_1 numbers99 l1).bind fun r135 => some r135))
noncomputable def order_Rows_l1 (l1 : List (List Int)) (s : (List Int) × Int) : Option (List Int) := loopO (fun s => order_Rows_b1 l1 s.1 s.2) s
noncomputable def order_Rows (l1 : List (List Int)) : Option (List Int) :=
  order_Rows_l1 l1 (([] : List Int), 0)
noncomputable def law04_known : Option (Bool) :=
  (order_Rows [[2], [1, 9], [1], ([] : List Int)]).bind fun r49 => (order_Strips [4, 8] 4).bind fun r55 => (gd (decide ((r49.length : Int) = 4)) (ix r49 0) 0).bind fun x57 => (some ((decide ((r49.length : Int) = 4)) && (decide (x57 = 3)))).bind fun x58 => (gd x58 (ix r49 3) 0).bind fun x59 => (some ((x58 && (decide (x59 = 0))) && (decide (r55.1 = 0)))).bind fun x60 => (gd (x60 && (decide (r55.2 = 1))) (order_Common [4, 8] 4 8) false).bind fun r63 => (some ((x60 && (decide (r55.2 = 1))) && r63)).bind fun x64 => (gd x64 (order_Common [4, 8] 3 5) false).bind fun r67 => some (x64 && (!r67))
end Go.Proofs.Ythbjlgklmamhjaa
