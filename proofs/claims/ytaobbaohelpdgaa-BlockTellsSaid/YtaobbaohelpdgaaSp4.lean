import Derived.Test.YtaobbaohelpdgaaSp3
namespace Go.Proofs.Ytaobbaohelpdgaa
set_option linter.unusedVariables false
noncomputable def law14_Cut_b1 (l1 : List ((List (Int × Int)) × Int × Int)) (out142 : List ((List (Int × Int)) × Int × Int)) (i145 : Int) : Option (((List ((List (Int × Int)) × Int × Int)) × Int) ⊕ (List ((List (Int × Int)) × Int × Int))) :=
  (some ((decide (i145 < (l1.length : Int))) && (decide (i145 < 10)))).bind fun x177 => if x177 then ((ix l1 i145).bind fun x182 => (cut x182.1 0 (mn (x182.1.length : Int) 20)).bind fun x190 => (app out142 [(x190, x182.2.1, x182.2.2)]).bind fun x198 => some (Sum.inl (x198, ad i145 1))) else (Option.map Sum.inr (some out142))
noncomputable def law14_Cut_l1 (l1 : List ((List (Int × Int)) × Int × Int)) (s : (List ((List (Int × Int)) × Int × Int)) × Int) : Option (List ((List (Int × Int)) × Int × Int)) := loopO (fun s => law14_Cut_b1 l1 s.1 s.2) s
noncomputable def law14_Cut (l1 : List ((List (Int × Int)) × Int × Int)) : Option (List ((List (Int × Int)) × Int × Int)) :=
  law14_Cut_l1 l1 (([] : List ((List (Int × Int)) × Int × Int)), 0)
noncomputable def law15_Cut_b2 (n1 : (List ((List (Int × Int)) × Int × Int)) × (List (List (List Int)))) (out635 : List (List (List Int))) (i638 : Int) (some832 : List (List Int)) (k835 : Int) : Option (((List (List Int)) × Int) ⊕ (((List (List (List Int))) × Int) ⊕ ((List ((List (Int × Int)) × Int × Int)) × (List (List (List Int)))))) :=
  (ix n1.2 i638).bind fun x877 => (some ((decide (k835 < (x877.length : Int))) && (decide (k835 < 5)))).bind fun x879 => if x879 then ((ix n1.2 i638).bind fun x884 => (ix x884 k835).bind fun x886 => (cut x886 0 (mn (x886.length : Int) 8)).bind fun x900 => (app ([] : List Int) x900).bind fun x902 => (app some832 [x902]).bind fun x907 => some (Sum.inl (x907, ad k835 1))) else (Option.map Sum.inr ((app out635 [some832]).bind fun x922 => some (Sum.inl (x922, ad i638 1))))
noncomputable def law15_Cut_l2 (n1 : (List ((List (Int × Int)) × Int × Int)) × (List (List (List Int)))) (out635 : List (List (List Int))) (i638 : Int) (s : (List (List Int)) × Int) : Option (((List (List (List Int))) × Int) ⊕ ((List ((List (Int × Int)) × Int × Int)) × (List (List (List Int))))) := loopO (fun s => law15_Cut_b2 n1 out635 i638 s.1 s.2) s
noncomputable def law15_Cut_b1 (n1 : (List ((List (Int × Int)) × Int × Int)) × (List (List (List Int)))) (r476 : List ((List (Int × Int)) × Int × Int)) (out635 : List (List (List Int))) (i638 : Int) : Option (((List (List (List Int))) × Int) ⊕ ((List ((List (Int × Int)) × Int × Int)) × (List (List (List Int))))) :=
  (some ((decide (i638 < (n1.2.length : Int))) && (decide (i638 < 6)))).bind fun x786 => if x786 then (law15_Cut_l2 n1 out635 i638 (([] : List (List Int)), 0)) else (Option.map Sum.inr (some (r476, out635)))
noncomputable def law15_Cut_l1 (n1 : (List ((List (Int × Int)) × Int × Int)) × (List (List (List Int)))) (r476 : List ((List (Int × Int)) × Int × Int)) (s : (List (List (List Int))) × Int) : Option ((List ((List (Int × Int)) × Int × Int)) × (List (List (List Int)))) := loopO (fun s => law15_Cut_b1 n1 r476 s.1 s.2) s
noncomputable def law15_Cut (n1 : (List ((List (Int × Int)) × Int × Int)) × (List (List (List Int)))) : Option ((List ((List (Int × Int)) × Int × Int)) × (List (List (List Int)))) :=
  (law14_Cut n1.1).bind fun r476 => law15_Cut_l1 n1 r476 (([] : List (List (List Int))), 0)
noncomputable def slices_Equal_api_Point_api_Point_b1 (s1 : List (Int × Int)) (s2 : List (Int × Int)) (x82 : Int) : Option (Int ⊕ Bool) :=
  if (decide (x82 < (s1.length : Int))) then ((ix s1 x82).bind fun x104 => (ix s2 x82).bind fun x105 => if (!decide (x104 = x105)) then (Option.map Sum.inr (some false)) else (some (Sum.inl (ad x82 1)))) else (Option.map Sum.inr (some true))
noncomputable def slices_Equal_api_Point_api_Point_l1 (s1 : List (Int × Int)) (s2 : List (Int × Int)) (s : Int) : Option (Bool) := loopO (fun s => slices_Equal_api_Point_api_Point_b1 s1 s2 s) s
noncomputable def slices_Equal_api_Point_api_Point (s1 : List (Int × Int)) (s2 : List (Int × Int)) : Option (Bool) :=
  if (!decide ((s1.length : Int) = (s2.length : Int))) then (some false) else (slices_Equal_api_Point_api_Point_l1 s1 s2 0)
noncomputable def arcs_Same_1 (x1 : (List (Int × Int)) × Int × Int) (y2 : (List (Int × Int)) × Int × Int) : Option (Bool) :=
  (some ((decide (x1.2.1 = y2.2.1)) && (decide (x1.2.2 = y2.2.2)))).bind fun x24 => (gd x24 (slices_Equal_api_Point_api_Point x1.1 y2.1) false).bind fun r25 => some (x24 && r25)
noncomputable def slices_EqualFunc_arcs_Arc_arcs_Arc_arcs_Arc_arcs_Arc_Same_1_b1 (s1 : List ((List (Int × Int)) × Int × Int)) (s2 : List ((List (Int × Int)) × Int × Int)) (x122 : Int) : Option (Int ⊕ Bool) :=
  if (decide (x122 < (s1.length : Int))) then ((ix s1 x122).bind fun x153 => (ix s2 x122).bind fun x159 => (arcs_Same_1 x153 x159).bind fun r165 => if (!r165) then (Option.map Sum.inr (some false)) else (some (Sum.inl (ad x122 1)))) else (Option.map Sum.inr (some true))
noncomputable def slices_EqualFunc_arcs_Arc_arcs_Arc_arcs_Arc_arcs_Arc_Same_1_l1 (s1 : List ((List (Int × Int)) × Int × Int)) (s2 : List ((List (Int × Int)) × Int × Int)) (s : Int) : Option (Bool) := loopO (fun s => slices_EqualFunc_arcs_Arc_arcs_Arc_arcs_Arc_arcs_Arc_Same_1_b1 s1 s2 s) s
noncomputable def slices_EqualFunc_arcs_Arc_arcs_Arc_arcs_Arc_arcs_Arc_Same_1 (s1 : List ((List (Int × Int)) × Int × Int)) (s2 : List ((List (Int × Int)) × Int × Int)) : Option (Bool) :=
  if (!decide ((s1.length : Int) = (s2.length : Int))) then (some false) else (slices_EqualFunc_arcs_Arc_arcs_Arc_arcs_Arc_arcs_Arc_Same_1_l1 s1 s2 0)
noncomputable def arcs_Same (x1 : List ((List (Int × Int)) × Int × Int)) (b2 : List ((List (Int × Int)) × Int × Int)) : Option (Bool) :=
  (slices_EqualFunc_arcs_Arc_arcs_Arc_arcs_Arc_arcs_Arc_Same_1 x1 b2).bind fun r15 => some r15
noncomputable def slices_Equal_int_int_b1 (s1 : List Int) (s2 : List Int) (x82 : Int) : Option (Int ⊕ Bool) :=
  if (decide (x82 < (s1.length : Int))) then ((ix s1 x82).bind fun x104 => (ix s2 x82).bind fun x105 => if (!decide (x104 = x105)) then (Option.map Sum.inr (some false)) else (some (Sum.inl (ad x82 1)))) else (Option.map Sum.inr (some true))
noncomputable def slices_Equal_int_int_l1 (s1 : List Int) (s2 : List Int) (s : Int) : Option (Bool) := loopO (fun s => slices_Equal_int_int_b1 s1 s2 s) s
noncomputable def slices_Equal_int_int (s1 : List Int) (s2 : List Int) : Option (Bool) :=
  if (!decide ((s1.length : Int) = (s2.length : Int))) then (some false) else (slices_Equal_int_int_l1 s1 s2 0)
noncomputable def slices_EqualFunc_int_int_int_int_int_b1 (s1 : List (List Int)) (s2 : List (List Int)) (x98 : Int) : Option (Int ⊕ Bool) :=
  if (decide (x98 < (s1.length : Int))) then ((ix s1 x98).bind fun x123 => (ix s2 x98).bind fun x126 => (slices_Equal_int_int x123 x126).bind fun r129 => if (!r129) then (Option.map Sum.inr (some false)) else (some (Sum.inl (ad x98 1)))) else (Option.map Sum.inr (some true))
noncomputable def slices_EqualFunc_int_int_int_int_int_l1 (s1 : List (List Int)) (s2 : List (List Int)) (s : Int) : Option (Bool) := loopO (fun s => slices_EqualFunc_int_int_int_int_int_b1 s1 s2 s) s
noncomputable def slices_EqualFunc_int_int_int_int_int (s1 : List (List Int)) (s2 : List (List Int)) : Option (Bool) :=
  if (!decide ((s1.length : Int) = (s2.length : Int))) then (some false) else (slices_EqualFunc_int_int_int_int_int_l1 s1 s2 0)
noncomputable def net_Same_1 (x1 : List (List Int)) (y2 : List (List Int)) : Option (Bool) :=
  (slices_EqualFunc_int_int_int_int_int x1 y2).bind fun r15 => some r15
noncomputable def slices_EqualFunc_int_int_int_int_Same_1_b1 (s1 : List (List (List Int))) (s2 : List (List (List Int))) (x98 : Int) : Option (Int ⊕ Bool) :=
  if (decide (x98 < (s1.length : Int))) then ((ix s1 x98).bind fun x123 => (ix s2 x98).bind fun x126 => (net_Same_1 x123 x126).bind fun r129 => if (!r129) then (Option.map Sum.inr (some false)) else (some (Sum.inl (ad x98 1)))) else (Option.map Sum.inr (some true))
noncomputable def slices_EqualFunc_int_int_int_int_Same_1_l1 (s1 : List (List (List Int))) (s2 : List (List (List Int))) (s : Int) : Option (Bool) := loopO (fun s => slices_EqualFunc_int_int_int_int_Same_1_b1 s1 s2 s) s
noncomputable def slices_EqualFunc_int_int_int_int_Same_1 (s1 : List (List (List Int))) (s2 : List (List (List Int))) : Option (Bool) :=
  if (!decide ((s1.length : Int) = (s2.length : Int))) then (some false) else (slices_EqualFunc_int_int_int_int_Same_1_l1 s1 s2 0)
noncomputable def net_Same (x1 : (List ((List (Int × Int)) × Int × Int)) × (List (List (List Int)))) (b2 : (List ((List (Int × Int)) × Int × Int)) × (List (List (List Int)))) : Option (Bool) :=
  (arcs_Same x1.1 b2.1).bind fun r24 => (gd r24 (slices_EqualFunc_int_int_int_int_Same_1 x1.2 b2.2) false).bind fun r25 => some (r24 && r25)
end Go.Proofs.Ytaobbaohelpdgaa
