import Derived.Test.YtpbhdblkjabdlaaSp2
namespace Go.Proofs.Ytpbhdblkjabdlaa
set_option linter.unusedVariables false
noncomputable def slices_Equal_table_Attr_table_Attr_b1 (s1 : List (ByteArray × (Int × ByteArray × Int))) (s2 : List (ByteArray × (Int × ByteArray × Int))) (x82 : Int) : Option (Int ⊕ Bool) :=
  if (decide (x82 < (s1.length : Int))) then ((ix s1 x82).bind fun x104 => (ix s2 x82).bind fun x105 => if (!decide (x104 = x105)) then (Option.map Sum.inr (some false)) else (some (Sum.inl (ad x82 1)))) else (Option.map Sum.inr (some true))
noncomputable def slices_Equal_table_Attr_table_Attr_l1 (s1 : List (ByteArray × (Int × ByteArray × Int))) (s2 : List (ByteArray × (Int × ByteArray × Int))) (s : Int) : Option (Bool) := loopO (fun s => slices_Equal_table_Attr_table_Attr_b1 s1 s2 s) s
noncomputable def slices_Equal_table_Attr_table_Attr (s1 : List (ByteArray × (Int × ByteArray × Int))) (s2 : List (ByteArray × (Int × ByteArray × Int))) : Option (Bool) :=
  if (!decide ((s1.length : Int) = (s2.length : Int))) then (some false) else (slices_Equal_table_Attr_table_Attr_l1 s1 s2 0)
noncomputable def table_Same (x1 : List (ByteArray × (Int × ByteArray × Int))) (b2 : List (ByteArray × (Int × ByteArray × Int))) : Option (Bool) :=
  (slices_Equal_table_Attr_table_Attr x1 b2).bind fun r15 => some r15
end Go.Proofs.Ytpbhdblkjabdlaa
