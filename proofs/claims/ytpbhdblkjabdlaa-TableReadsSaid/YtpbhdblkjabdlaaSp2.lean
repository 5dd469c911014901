import Derived.Test.YtpbhdblkjabdlaaSp1
namespace Go.Proofs.Ytpbhdblkjabdlaa
set_option linter.unusedVariables false
noncomputable def table_place_string (l1 : List ByteArray) (x2 : ByteArray) : Option ((List ByteArray) × Int) :=
  (slices_Index_string_string l1 x2).bind fun r32 => if (decide (0 ≤ r32)) then (some (l1, r32)) else ((slices_Clip_string_string l1).bind fun r37 => (app r37 [x2]).bind fun x43 => some (x43, (l1.length : Int)))
noncomputable def slices_Index_value_Value_value_Value_b1 (s1 : List (Int × ByteArray × Int)) (v2 : Int × ByteArray × Int) (x74 : Int) : Option (Int ⊕ Int) :=
  if (decide (x74 < (s1.length : Int))) then ((ix s1 x74).bind fun x95 => if (decide (v2 = x95)) then (Option.map Sum.inr (some x74)) else (some (Sum.inl (ad x74 1)))) else (Option.map Sum.inr (some (-1)))
noncomputable def slices_Index_value_Value_value_Value_l1 (s1 : List (Int × ByteArray × Int)) (v2 : Int × ByteArray × Int) (s : Int) : Option (Int) := loopO (fun s => slices_Index_value_Value_value_Value_b1 s1 v2 s) s
noncomputable def slices_Index_value_Value_value_Value (s1 : List (Int × ByteArray × Int)) (v2 : Int × ByteArray × Int) : Option (Int) :=
  slices_Index_value_Value_value_Value_l1 s1 v2 0
noncomputable def slices_Clip_value_Value_value_Value (s1 : List (Int × ByteArray × Int)) : Option (List (Int × ByteArray × Int)) :=
  (cut s1 0 (s1.length : Int)).bind fun x17 => some x17
noncomputable def table_place_value_Value (l1 : List (Int × ByteArray × Int)) (x2 : Int × ByteArray × Int) : Option ((List (Int × ByteArray × Int)) × Int) :=
  (slices_Index_value_Value_value_Value l1 x2).bind fun r36 => if (decide (0 ≤ r36)) then (some (l1, r36)) else ((slices_Clip_value_Value_value_Value l1).bind fun r41 => (app r41 [x2]).bind fun x47 => some (x47, (l1.length : Int)))
noncomputable def table_Table_Add_b1 (l2 : List (ByteArray × (Int × ByteArray × Int))) (t205 : List ByteArray) (t209 : List (Int × ByteArray × Int)) (out213 : List Int) (x215 : Int) : Option (((List ByteArray) × (List (Int × ByteArray × Int)) × (List Int) × Int) ⊕ ((List Int) × Int × ((List ByteArray) × (List (Int × ByteArray × Int))))) :=
  if (decide (x215 < (l2.length : Int))) then ((ix l2 x215).bind fun x260 => (table_place_string t205 x260.1).bind fun r269 => (table_place_value_Value t209 x260.2).bind fun r277 => (app out213 [r269.2, r277.2]).bind fun x286 => some (Sum.inl (r269.1, r277.1, x286, ad x215 1))) else (Option.map Sum.inr (some (out213, 0, (t205, t209))))
noncomputable def table_Table_Add_l1 (l2 : List (ByteArray × (Int × ByteArray × Int))) (s : (List ByteArray) × (List (Int × ByteArray × Int)) × (List Int) × Int) : Option ((List Int) × Int × ((List ByteArray) × (List (Int × ByteArray × Int)))) := loopO (fun s => table_Table_Add_b1 l2 s.1 s.2.1 s.2.2.1 s.2.2.2) s
noncomputable def table_Table_Add (t1 : (List ByteArray) × (List (Int × ByteArray × Int))) (l2 : List (ByteArray × (Int × ByteArray × Int))) : Option ((List Int) × Int × ((List ByteArray) × (List (Int × ByteArray × Int)))) :=
  (table_Check l2).bind fun r157 => if (!decide (r157 = 0)) then (some (([] : List Int), r157, t1)) else (table_Table_Add_l1 l2 (t1.1, t1.2, ([] : List Int), 0))
noncomputable def table_Table_Attrs_b1 (t1 : (List ByteArray) × (List (Int × ByteArray × Int))) (tags2 : List Int) (met255 : List (ByteArray × Bool)) (out258 : List (ByteArray × (Int × ByteArray × Int))) (i260 : Int) : Option (((List (ByteArray × Bool)) × (List (ByteArray × (Int × ByteArray × Int))) × Int) ⊕ ((List (ByteArray × (Int × ByteArray × Int))) × Int)) :=
  if (decide (i260 < (tags2.length : Int))) then ((ix tags2 i260).bind fun x306 => (ix tags2 (ad i260 1)).bind fun x307 => (some ((decide (x306 < 0)) || (decide ((t1.1.length : Int) ≤ x306)))).bind fun x310 => (some ((x310 || (decide (x307 < 0))) || (decide ((t1.2.length : Int) ≤ x307)))).bind fun x311 => if x311 then (Option.map Sum.inr (some (([] : List (ByteArray × (Int × ByteArray × Int))), 5))) else ((ix t1.1 x306).bind fun x316 => if (lkM met255 x316).getD false then (Option.map Sum.inr (some (([] : List (ByteArray × (Int × ByteArray × Int))), 8))) else ((ix t1.1 x306).bind fun x321 => (some (upM met255 x321 true)).bind fun D322 => (ix t1.1 x306).bind fun x329 => (ix t1.2 x307).bind fun x330 => (app out258 [(x329, x330)]).bind fun x333 => some (Sum.inl (D322, x333, ad i260 2))))) else (Option.map Sum.inr (some (out258, 0)))
noncomputable def table_Table_Attrs_l1 (t1 : (List ByteArray) × (List (Int × ByteArray × Int))) (tags2 : List Int) (s : (List (ByteArray × Bool)) × (List (ByteArray × (Int × ByteArray × Int))) × Int) : Option ((List (ByteArray × (Int × ByteArray × Int))) × Int) := loopO (fun s => table_Table_Attrs_b1 t1 tags2 s.1 s.2.1 s.2.2) s
noncomputable def table_Table_Attrs (t1 : (List ByteArray) × (List (Int × ByteArray × Int))) (tags2 : List Int) : Option ((List (ByteArray × (Int × ByteArray × Int))) × Int) :=
  (rmK (tags2.length : Int) 2).bind fun x203 => if (!decide (x203 = 0)) then (some (([] : List (ByteArray × (Int × ByteArray × Int))), 3)) else (if (decide (16 < (tags2.length : Int))) then (some (([] : List (ByteArray × (Int × ByteArray × Int))), 6)) else (table_Table_Attrs_l1 t1 tags2 (([] : List (ByteArray × Bool)), ([] : List (ByteArray × (Int × ByteArray × Int))), 0)))
noncomputable def ref01_Sign (n1 : Int) : Option (Int) :=
  if (decide (0 < n1)) then (some 1) else (if (decide (n1 < 0)) then (some (-1)) else (some 0))
noncomputable def ref04_Compare_b1 (x1 : List Int) (b2 : List Int) (i100 : Int) : Option (Int ⊕ Int) :=
  (some ((decide (i100 < (x1.length : Int))) && (decide (i100 < (b2.length : Int))))).bind fun x123 => if x123 then ((ix x1 i100).bind fun x129 => (ix b2 i100).bind fun x130 => if (decide (x129 < x130)) then (Option.map Sum.inr (some (-1))) else ((ix x1 i100).bind fun x134 => (ix b2 i100).bind fun x135 => if (decide (x135 < x134)) then (Option.map Sum.inr (some 1)) else (some (Sum.inl (ad i100 1))))) else (Option.map Sum.inr ((some (sb (x1.length : Int) (b2.length : Int))).bind fun x140 => (ref01_Sign x140).bind fun r141 => some r141))
noncomputable def ref04_Compare_l1 (x1 : List Int) (b2 : List Int) (s : Int) : Option (Int) := loopO (fun s => ref04_Compare_b1 x1 b2 s) s
noncomputable def ref04_Compare (x1 : List Int) (b2 : List Int) : Option (Int) :=
  ref04_Compare_l1 x1 b2 0
noncomputable def law04_Ints (x1 : List Int) (b2 : List Int) : Option (Bool) :=
  (ref04_Compare x1 b2).bind fun r15 => some (decide (r15 = 0))
noncomputable def law11_known : Option (Bool) :=
  (table_Table_Add (([] : List ByteArray), ([] : List (Int × ByteArray × Int))) [((⟨#[97]⟩ : ByteArray), (3, ByteArray.empty, 1)), ((⟨#[98]⟩ : ByteArray), (3, ByteArray.empty, 1))]).bind fun r76 => (table_Table_Add r76.2.2 [((⟨#[98]⟩ : ByteArray), (3, ByteArray.empty, 2)), ((⟨#[97]⟩ : ByteArray), (3, ByteArray.empty, 1))]).bind fun r93 => (some ((decide (r76.2.1 = 0)) && (decide (r93.2.1 = 0)))).bind fun x102 => (gd x102 (law04_Ints r76.1 [0, 0, 1, 0]) false).bind fun r105 => (gd (x102 && r105) (law04_Ints r93.1 [1, 1, 0, 0]) false).bind fun r108 => (some (((x102 && r105) && r108) && (decide ((r93.2.2.1.length : Int) = 2)))).bind fun x109 => some x109
end Go.Proofs.Ytpbhdblkjabdlaa
