import Derived.Test.YtpbhdblkjabdlaaSp2
namespace Go.Proofs.Ytpbhdblkjabdlaa
set_option linter.unusedVariables false
noncomputable def table_Table_Check_1 (k1 : ByteArray) : Option (Int) :=
  (text_Name k1).bind fun r20 => if (!r20) then (some 13) else (some 0)
noncomputable def table_once_string_Check_1_b1 (l1 : List ByteArray) (met121 : List (ByteArray × Bool)) (x122 : Int) : Option (((List (ByteArray × Bool)) × Int) ⊕ Int) :=
  if (decide (x122 < (l1.length : Int))) then ((ix l1 x122).bind fun x152 => (table_Table_Check_1 x152).bind fun r155 => if (!decide (r155 = 0)) then (Option.map Sum.inr (some r155)) else (if (lkM met121 x152).getD false then (Option.map Sum.inr (some 8)) else ((some (upM met121 x152 true)).bind fun D164 => some (Sum.inl (D164, ad x122 1))))) else (Option.map Sum.inr (some 0))
noncomputable def table_once_string_Check_1_l1 (l1 : List ByteArray) (s : (List (ByteArray × Bool)) × Int) : Option (Int) := loopO (fun s => table_once_string_Check_1_b1 l1 s.1 s.2) s
noncomputable def table_once_string_Check_1 (l1 : List ByteArray) : Option (Int) :=
  table_once_string_Check_1_l1 l1 (([] : List (ByteArray × Bool)), 0)
noncomputable def table_once_value_Value_Check_b1 (l1 : List (Int × ByteArray × Int)) (met133 : List ((Int × ByteArray × Int) × Bool)) (x134 : Int) : Option (((List ((Int × ByteArray × Int) × Bool)) × Int) ⊕ Int) :=
  if (decide (x134 < (l1.length : Int))) then ((ix l1 x134).bind fun x167 => (value_Check x167).bind fun r173 => if (!decide (r173 = 0)) then (Option.map Sum.inr (some r173)) else (if (lkM met133 x167).getD false then (Option.map Sum.inr (some 8)) else ((some (upM met133 x167 true)).bind fun D182 => some (Sum.inl (D182, ad x134 1))))) else (Option.map Sum.inr (some 0))
noncomputable def table_once_value_Value_Check_l1 (l1 : List (Int × ByteArray × Int)) (s : (List ((Int × ByteArray × Int) × Bool)) × Int) : Option (Int) := loopO (fun s => table_once_value_Value_Check_b1 l1 s.1 s.2) s
noncomputable def table_once_value_Value_Check (l1 : List (Int × ByteArray × Int)) : Option (Int) :=
  table_once_value_Value_Check_l1 l1 (([] : List ((Int × ByteArray × Int) × Bool)), 0)
noncomputable def table_Table_Check (t1 : (List ByteArray) × (List (Int × ByteArray × Int))) : Option (Int) :=
  (table_once_string_Check_1 t1.1).bind fun r25 => if (!decide (r25 = 0)) then (some r25) else ((table_once_value_Value_Check t1.2).bind fun r31 => some r31)
end Go.Proofs.Ytpbhdblkjabdlaa
