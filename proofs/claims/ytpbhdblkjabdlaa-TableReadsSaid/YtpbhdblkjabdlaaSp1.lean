import Derived.Test.YtpbhdblkjabdlaaPst
namespace Go.Proofs.Ytpbhdblkjabdlaa
set_option linter.unusedVariables false
noncomputable def law10_Cut (v1 : Int × ByteArray × Int) : Option (Int × ByteArray × Int) :=
  (cutS v1.2.1 0 (mn (v1.2.1.size : Int) 100)).bind fun x28 => some (v1.1, x28, v1.2.2)
noncomputable def law11_Cut_b1 (l1 : List (ByteArray × (Int × ByteArray × Int))) (out122 : List (ByteArray × (Int × ByteArray × Int))) (i124 : Int) : Option (((List (ByteArray × (Int × ByteArray × Int))) × Int) ⊕ (List (ByteArray × (Int × ByteArray × Int)))) :=
  (some ((decide (i124 < (l1.length : Int))) && (decide (i124 < 10)))).bind fun x154 => if x154 then ((ix l1 i124).bind fun x166 => (ix l1 i124).bind fun x167 => (cutS x166.1 0 (mn (x167.1.size : Int) 100)).bind fun x168 => (ix l1 i124).bind fun x169 => (law10_Cut x169.2).bind fun r170 => (app out122 [(x168, r170)]).bind fun x173 => some (Sum.inl (x173, ad i124 1))) else (Option.map Sum.inr (some out122))
noncomputable def law11_Cut_l1 (l1 : List (ByteArray × (Int × ByteArray × Int))) (s : (List (ByteArray × (Int × ByteArray × Int))) × Int) : Option (List (ByteArray × (Int × ByteArray × Int))) := loopO (fun s => law11_Cut_b1 l1 s.1 s.2) s
noncomputable def law11_Cut (l1 : List (ByteArray × (Int × ByteArray × Int))) : Option (List (ByteArray × (Int × ByteArray × Int))) :=
  law11_Cut_l1 l1 (([] : List (ByteArray × (Int × ByteArray × Int))), 0)
noncomputable def internal_stringslite_HasPrefix (s1 : ByteArray) (prefix2 : ByteArray) : Option (Bool) :=
  (gd (decide ((prefix2.size : Int) ≤ (s1.size : Int))) (cutS s1 0 (prefix2.size : Int)) ByteArray.empty).bind fun x16 => (some ((decide ((prefix2.size : Int) ≤ (s1.size : Int))) && (eqS x16 prefix2))).bind fun x17 => some x17
noncomputable def strings_HasPrefix (s1 : ByteArray) (prefix2 : ByteArray) : Option (Bool) :=
  (internal_stringslite_HasPrefix s1 prefix2).bind fun r15 => some r15
noncomputable def text_bad (s1 : ByteArray) (x2 : Int) (r3 : Int) : Option (Bool) :=
  (gd (decide (r3 = 65533)) (cutS s1 x2 (s1.size : Int)) ByteArray.empty).bind fun x16 => (gd (decide (r3 = 65533)) (strings_HasPrefix x16 (⟨#[239, 191, 189]⟩ : ByteArray)) false).bind fun r17 => some ((decide (r3 = 65533)) && (!r17))
noncomputable def text_Count_b1 (s1 : ByteArray) (n82 : Int) (x84 : Int) : Option ((Int × Int) ⊕ (Int × Bool)) :=
  if (decide (x84 < (s1.size : Int))) then ((text_bad s1 x84 (rnS s1 x84)).bind fun r107 => if r107 then (Option.map Sum.inr (some (0, false))) else (some (Sum.inl (ad n82 1, (nxS s1 x84))))) else (Option.map Sum.inr (some (n82, true)))
noncomputable def text_Count_l1 (s1 : ByteArray) (s : Int × Int) : Option (Int × Bool) := loopO (fun s => text_Count_b1 s1 s.1 s.2) s
noncomputable def text_Count (s1 : ByteArray) : Option (Int × Bool) :=
  text_Count_l1 s1 (0, 0)
noncomputable def text_letter (r1 : Int) : Option (Bool) :=
  (some ((decide (97 ≤ r1)) && (decide (r1 ≤ 122)))).bind fun x17 => (some ((decide (65 ≤ r1)) && (decide (r1 ≤ 90)))).bind fun x18 => (some (((x17 || x18) || (decide (r1 = 95))) || (decide (128 ≤ r1)))).bind fun x19 => some x19
noncomputable def text_Name_b1 (s1 : ByteArray) (x92 : Int) : Option (Int ⊕ Bool) :=
  if (decide (x92 < (s1.size : Int))) then ((text_letter (rnS s1 x92)).bind fun r115 => (some ((!decide ((rnS s1 x92) = 45)) && (!decide ((rnS s1 x92) = 46)))).bind fun x116 => (some ((decide ((rnS s1 x92) < 48)) || (decide (57 < (rnS s1 x92))))).bind fun x117 => (some ((decide (x92 = 0)) || (x116 && x117))).bind fun x118 => if ((!r115) && x118) then (Option.map Sum.inr (some false)) else (some (Sum.inl (nxS s1 x92)))) else (Option.map Sum.inr (some true))
noncomputable def text_Name_l1 (s1 : ByteArray) (s : Int) : Option (Bool) := loopO (fun s => text_Name_b1 s1 s) s
noncomputable def text_Name (s1 : ByteArray) : Option (Bool) :=
  (text_Count s1).bind fun r68 => (some (((!r68.2) || (decide (r68.1 < 1))) || (decide (32 < r68.1)))).bind fun x71 => if x71 then (some false) else (text_Name_l1 s1 0)
noncomputable def text_Right (s1 : ByteArray) : Option (Bool) :=
  (text_Count s1).bind fun r16 => some r16.2
noncomputable def value_Check_k1 (v1 : Int × ByteArray × Int) (least1031 : Int) (greatest1032 : Int) : Option (Int) :=
  if (!eqS v1.2.1 ByteArray.empty) then (some 3) else ((some ((decide (v1.2.2 < least1031)) || (decide (greatest1032 < v1.2.2)))).bind fun x1040 => if x1040 then (some 5) else (some 0))
noncomputable def value_Check_k2 (v1 : Int × ByteArray × Int) (least1148 : Int) : Option (Int) :=
  value_Check_k1 v1 least1148 1152921504606846976
noncomputable def value_Check (v1 : Int × ByteArray × Int) : Option (Int) :=
  if (decide (v1.1 = 1)) then (if (!decide (v1.2.2 = 0)) then (some 3) else ((text_Right v1.2.1).bind fun r1165 => if (!r1165) then (some 13) else (if (decide (64 < (v1.2.1.size : Int))) then (some 2) else (some 0)))) else (if (decide (v1.1 = 3)) then (value_Check_k2 v1 (-1152921504606846976)) else (if (decide (v1.1 = 2)) then (value_Check_k2 v1 0) else (if (decide (v1.1 = 4)) then (value_Check_k1 v1 0 1) else (some 14))))
noncomputable def table_Check_b1 (l1 : List (ByteArray × (Int × ByteArray × Int))) (met161 : List (ByteArray × Bool)) (x162 : Int) : Option (((List (ByteArray × Bool)) × Int) ⊕ Int) :=
  if (decide (x162 < (l1.length : Int))) then ((ix l1 x162).bind fun x200 => (text_Name x200.1).bind fun r206 => if (!r206) then (Option.map Sum.inr (some 13)) else ((value_Check x200.2).bind fun r211 => if (!decide (r211 = 0)) then (Option.map Sum.inr (some r211)) else (if (lkM met161 x200.1).getD false then (Option.map Sum.inr (some 8)) else ((some (upM met161 x200.1 true)).bind fun D220 => some (Sum.inl (D220, ad x162 1)))))) else (Option.map Sum.inr (some 0))
noncomputable def table_Check_l1 (l1 : List (ByteArray × (Int × ByteArray × Int))) (s : (List (ByteArray × Bool)) × Int) : Option (Int) := loopO (fun s => table_Check_b1 l1 s.1 s.2) s
noncomputable def table_Check (l1 : List (ByteArray × (Int × ByteArray × Int))) : Option (Int) :=
  if (decide (8 < (l1.length : Int))) then (some 6) else (table_Check_l1 l1 (([] : List (ByteArray × Bool)), 0))
noncomputable def slices_Index_string_string_b1 (s1 : List ByteArray) (v2 : ByteArray) (x70 : Int) : Option (Int ⊕ Int) :=
  if (decide (x70 < (s1.length : Int))) then ((ix s1 x70).bind fun x91 => if (eqS v2 x91) then (Option.map Sum.inr (some x70)) else (some (Sum.inl (ad x70 1)))) else (Option.map Sum.inr (some (-1)))
noncomputable def slices_Index_string_string_l1 (s1 : List ByteArray) (v2 : ByteArray) (s : Int) : Option (Int) := loopO (fun s => slices_Index_string_string_b1 s1 v2 s) s
noncomputable def slices_Index_string_string (s1 : List ByteArray) (v2 : ByteArray) : Option (Int) :=
  slices_Index_string_string_l1 s1 v2 0
noncomputable def slices_Clip_string_string (s1 : List ByteArray) : Option (List ByteArray) :=
  (cut s1 0 (s1.length : Int)).bind fun x17 => some x17
end Go.Proofs.Ytpbhdblkjabdlaa
