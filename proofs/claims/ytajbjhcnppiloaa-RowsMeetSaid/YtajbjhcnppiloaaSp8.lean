/-
  Chapter 06. Said plainly. No program in sight.
-/
import Derived.Test.YtajbjhcnppiloaaSp3
namespace Go.Proofs.Ytajbjhcnppiloaa
set_option linter.unusedVariables false
noncomputable def rows_Index_Len_nil : Option (Int) :=
  some 0
noncomputable def rows_Index_Box_nil (i2 : Int) : Option (((Int × Int) × (Int × Int)) × Bool) :=
  (some ((decide (i2 < 0)) || (decide (0 ≤ i2)))).bind fun x24 => if x24 then (some (((0, 0), (0, 0)), false)) else none
noncomputable def rows_Index_Add_nil (l2 : List ((Int × Int) × (Int × Int))) : Option (Int) :=
  some 0
noncomputable def rows_Index_Find_nil (b2 : (Int × Int) × (Int × Int)) : Option (List Int) :=
  (gd (!true) (rows_Right b2) false).bind fun r37 => if (true || (!r37)) then (some ([] : List Int)) else ((rows_great b2).bind fun r47 => if r47 then none else none)
noncomputable def rows_Index_At_nil (p2 : Int × Int) : Option (List Int) :=
  (rows_Index_Find_nil (p2, p2)).bind fun r21 => some r21
noncomputable def rows_Index_Pairs_nil : Option (List (Int × Int)) :=
  some ([] : List (Int × Int))
noncomputable def law06_RowsNil (b1 : (Int × Int) × (Int × Int)) (p2 : Int × Int) (n3 : Int) : Option (Bool) :=
  (rows_Index_Box_nil n3).bind fun r44 => (law06_known).bind fun r49 => (gd (r49 && true) (rows_Index_Find_nil b1) []).bind fun r52 => (some ((r49 && true) && (decide ((r52.length : Int) = 0)))).bind fun x55 => (gd x55 (rows_Index_At_nil p2) []).bind fun r56 => (some (x55 && (decide ((r56.length : Int) = 0)))).bind fun x59 => (some (x59 && (decide ((([] : List (Int × Int)).length : Int) = 0)))).bind fun x62 => (some (x62 && (decide (r44.1 = ((0, 0), (0, 0)))))).bind fun x63 => some ((x63 && (!r44.2)) && true)
end Go.Proofs.Ytajbjhcnppiloaa
