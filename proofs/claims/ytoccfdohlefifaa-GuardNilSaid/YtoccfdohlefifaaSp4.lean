import Derived.Test.YtoccfdohlefifaaSp3
namespace Go.Proofs.Ytoccfdohlefifaa
set_option linter.unusedVariables false
noncomputable def rows_Index_Find_k2 (x3225 : Int) (out3420 : List Int) : Option (((List Int) × Int) ⊕ (List Int)) :=
  some (Sum.inl (out3420, ad x3225 1))
noncomputable def rows_Index_Find_b1 (x1 : (List ((Int × Int) × (Int × Int))) × (List ((Int × Int) × (List Int))) × (List Int)) (b2 : (Int × Int) × (Int × Int)) (out3223 : List Int) (x3225 : Int) : Option (((List Int) × Int) ⊕ (List Int)) :=
  if (decide (x3225 < (x1.1.length : Int))) then ((ix x1.1 x3225).bind fun x3425 => (rows_Meet b2 x3425).bind fun r3430 => if r3430 then ((app out3223 [x3225]).bind fun x3442 => rows_Index_Find_k2 x3225 x3442) else (rows_Index_Find_k2 x3225 out3223)) else (Option.map Sum.inr (some out3223))
noncomputable def rows_Index_Find_l1 (x1 : (List ((Int × Int) × (Int × Int))) × (List ((Int × Int) × (List Int))) × (List Int)) (b2 : (Int × Int) × (Int × Int)) (s : (List Int) × Int) : Option (List Int) := loopO (fun s => rows_Index_Find_b1 x1 b2 s.1 s.2) s
noncomputable def rows_Index_Find_k4 (x3560 : Int) (out3741 : List Int) : Option (((List Int) × Int) ⊕ (List Int)) :=
  some (Sum.inl (out3741, ad x3560 1))
noncomputable def rows_Index_Find_k6 (x5909 : Int) (out6131 : List Int) (met6134 : List (Int × Bool)) : Option (((List Int) × (List (Int × Bool)) × Int) ⊕ (((List Int) × (List (Int × Bool))) ⊕ Empty)) :=
  some (Sum.inl (out6131, met6134, ad x5909 1))
noncomputable def rows_Index_Find_b5 (x1 : (List ((Int × Int) × (Int × Int))) × (List ((Int × Int) × (List Int))) × (List Int)) (b2 : (Int × Int) × (Int × Int)) (x5370 : Int × Int) (out5905 : List Int) (met5908 : List (Int × Bool)) (x5909 : Int) : Option (((List Int) × (List (Int × Bool)) × Int) ⊕ (((List Int) × (List (Int × Bool))) ⊕ Empty)) :=
  if (decide (x5909 < (((lkM x1.2.1 x5370).getD []).length : Int))) then ((ix ((lkM x1.2.1 x5370).getD []) x5909).bind fun x6138 => (gd (!((lkM met5908 x6138).getD false)) (ix x1.1 x6138) ((0, 0), (0, 0))).bind fun x6141 => (gd (!((lkM met5908 x6138).getD false)) (rows_Meet b2 x6141) false).bind fun r6142 => (some (((lkM met5908 x6138).getD false) || (!r6142))).bind fun x6143 => if x6143 then (rows_Index_Find_k6 x5909 out5905 met5908) else ((some (upM met5908 x6138 true)).bind fun D6146 => (app out5905 [x6138]).bind fun x6158 => rows_Index_Find_k6 x5909 x6158 D6146)) else (Option.map Sum.inr (some (Sum.inl (out5905, met5908))))
noncomputable def rows_Index_Find_l5 (x1 : (List ((Int × Int) × (Int × Int))) × (List ((Int × Int) × (List Int))) × (List Int)) (b2 : (Int × Int) × (Int × Int)) (x5370 : Int × Int) (s : (List Int) × (List (Int × Bool)) × Int) : Option (((List Int) × (List (Int × Bool))) ⊕ Empty) := loopO (fun s => rows_Index_Find_b5 x1 b2 x5370 s.1 s.2.1 s.2.2) s
noncomputable def rows_Index_Find_b7 (x1 : (List ((Int × Int) × (Int × Int))) × (List ((Int × Int) × (List Int))) × (List Int)) (b2 : (Int × Int) × (Int × Int)) (out4572 : List Int) (met4574 : List (Int × Bool)) (x5370 : (Int × Int)) : Option (((List Int) × (List (Int × Bool))) ⊕ Empty) :=
  rows_Index_Find_l5 x1 b2 x5370 (out4572, met4574, 0)
noncomputable def rows_Index_Find_b8 (out4572 : List Int) (met4574 : List (Int × Bool)) : Option (List Int) :=
  (order_Uniq out4572).bind fun r6164 => some r6164
noncomputable def rows_Index_Find_b3 (x1 : (List ((Int × Int) × (Int × Int))) × (List ((Int × Int) × (List Int))) × (List Int)) (b2 : (Int × Int) × (Int × Int)) (out3558 : List Int) (x3560 : Int) : Option (((List Int) × Int) ⊕ (List Int)) :=
  if (decide (x3560 < (x1.2.2.length : Int))) then ((ix x1.2.2 x3560).bind fun x3746 => (ix x1.1 x3746).bind fun x3748 => (rows_Meet b2 x3748).bind fun r3749 => if r3749 then ((app out3558 [x3746]).bind fun x3761 => rows_Index_Find_k4 x3560 x3761) else (rows_Index_Find_k4 x3560 out3558)) else (Option.map Sum.inr (rngO (rows_fields_1 (((List Int) × (List (Int × Bool))) ⊕ Empty) (yb (fun (sr : (List Int) × (List (Int × Bool))) (xr : (Int × Int)) => rows_Index_Find_b7 x1 b2 sr.1 sr.2 xr)) (Sum.inl (out3558, ([] : List (Int × Bool)))) b2) (fun (sr : (List Int) × (List (Int × Bool))) => rows_Index_Find_b8 sr.1 sr.2) (fun (e : Empty) => nomatch e)))
noncomputable def rows_Index_Find_l3 (x1 : (List ((Int × Int) × (Int × Int))) × (List ((Int × Int) × (List Int))) × (List Int)) (b2 : (Int × Int) × (Int × Int)) (s : (List Int) × Int) : Option (List Int) := loopO (fun s => rows_Index_Find_b3 x1 b2 s.1 s.2) s
noncomputable def rows_Index_Find (x1 : (List ((Int × Int) × (Int × Int))) × (List ((Int × Int) × (List Int))) × (List Int)) (b2 : (Int × Int) × (Int × Int)) : Option (List Int) :=
  (gd (!false) (rows_Right b2) false).bind fun r3094 => if (false || (!r3094)) then (some ([] : List Int)) else ((rows_great b2).bind fun r3104 => if r3104 then (rows_Index_Find_l1 x1 b2 (([] : List Int), 0)) else (rows_Index_Find_l3 x1 b2 (([] : List Int), 0)))
noncomputable def exact_Cross (x1 : Int × Int) (b2 : Int × Int) (c3 : Int × Int) : Option (Int) :=
  (exact_Right [x1, b2, c3]).bind fun r37 => if (!r37) then (some 0) else ((some (sb (ml (sb b2.1 x1.1) (sb c3.2 x1.2)) (ml (sb b2.2 x1.2) (sb c3.1 x1.1)))).bind fun x41 => some x41)
noncomputable def exact_Turn (x1 : Int × Int) (b2 : Int × Int) (c3 : Int × Int) : Option (Int) :=
  (exact_Cross x1 b2 c3).bind fun r37 => if (decide (0 < r37)) then (some 1) else (if (decide (r37 < 0)) then (some (-1)) else (some 0))
noncomputable def exact_between (x1 : Int × Int) (b2 : Int × Int) (p3 : Int × Int) : Option (Bool) :=
  (exact_within p3.1 (mn x1.1 b2.1) (mx x1.1 b2.1)).bind fun r28 => (gd r28 (exact_within p3.2 (mn x1.2 b2.2) (mx x1.2 b2.2)) false).bind fun r29 => some (r28 && r29)
end Go.Proofs.Ytoccfdohlefifaa
