import Derived.Test.YtpbhdblkjabdlaaSp2
import Derived.Test.YtpbhdblkjabdlaaSp3
import Derived.Test.YtpbhdblkjabdlaaSp5
namespace Go.Proofs.Ytpbhdblkjabdlaa
set_option linter.unusedVariables false
noncomputable def table_Table_Add_nil (l2 : List (ByteArray × (Int × ByteArray × Int))) : Option ((List Int) × Int) :=
  some (([] : List Int), 1)
noncomputable def table_Table_Attrs_nil_b1 (tags2 : List Int) : Option (Unit ⊕ ((List (ByteArray × (Int × ByteArray × Int))) × Int)) :=
  if (decide (0 < (tags2.length : Int))) then ((ix tags2 0).bind fun x178 => (ix tags2 1).bind fun x179 => (some ((decide (x178 < 0)) || (decide (0 ≤ x178)))).bind fun x182 => (some ((x182 || (decide (x179 < 0))) || (decide (0 ≤ x179)))).bind fun x183 => if x183 then (Option.map Sum.inr (some (([] : List (ByteArray × (Int × ByteArray × Int))), 5))) else none) else (Option.map Sum.inr (some (([] : List (ByteArray × (Int × ByteArray × Int))), 0)))
noncomputable def table_Table_Attrs_nil_l1 (tags2 : List Int) (s : Unit) : Option ((List (ByteArray × (Int × ByteArray × Int))) × Int) := loopO (fun _ => table_Table_Attrs_nil_b1 tags2) s
noncomputable def table_Table_Attrs_nil (tags2 : List Int) : Option ((List (ByteArray × (Int × ByteArray × Int))) × Int) :=
  (rmK (tags2.length : Int) 2).bind fun x137 => if (!decide (x137 = 0)) then (some (([] : List (ByteArray × (Int × ByteArray × Int))), 3)) else (if (decide (16 < (tags2.length : Int))) then (some (([] : List (ByteArray × (Int × ByteArray × Int))), 6)) else (table_Table_Attrs_nil_l1 tags2 ()))
noncomputable def table_Table_Check_nil : Option (Int) :=
  some 1
noncomputable def law11_TableNil (l1 : List (ByteArray × (Int × ByteArray × Int))) (tags2 : List Int) : Option (Bool) :=
  (law11_Cut l1).bind fun r38 => (cut tags2 0 (mn (tags2.length : Int) 20)).bind fun x41 => (table_Table_Attrs_nil x41).bind fun r47 => (ref11_Attrs (([] : List ByteArray), ([] : List (Int × ByteArray × Int))) x41).bind fun r51 => (law11_known).bind fun r55 => (some (r55 && (decide ((((([] : List Int), 1).1).length : Int) = 0)))).bind fun x56 => (some (x56 && (decide (((([] : List Int), 1).2) = 1)))).bind fun x57 => (some (x57 && (decide ((r47.1.length : Int) = 0)))).bind fun x58 => (some ((x58 && (decide (r47.2 = r51.2))) && true)).bind fun x59 => some x59
end Go.Proofs.Ytpbhdblkjabdlaa
