import Derived.Test.YtaobbaohelpdgaaSp2
namespace Go.Proofs.Ytaobbaohelpdgaa
set_option linter.unusedVariables false
noncomputable def block_Read_1_nil (f0 : (List ((List (Int × Int)) × Int × Int)) × (List (List (List Int)))) (f1 : Int) (f2 : Int) : Option (Unit) :=
  some ()
noncomputable def block_Read_1_stop (f0 : (List ((List (Int × Int)) × Int × Int)) × (List (List (List Int)))) (f1 : Int) (f2 : Int) (e0 : Int) : Option (((List ((List (Int × Int)) × Int × Int)) × (List (List (List Int)))) × Int × Int) :=
  some ((([] : List ((List (Int × Int)) × Int × Int)), ([] : List (List (List Int)))), 0, e0)
noncomputable def block_Read (b1 : List Int) : Option (((List ((List (Int × Int)) × Int × Int)) × (List (List (List Int)))) × Int × Int) :=
  rngO (block_cursor_net ((b1, 0), (0, 0))) (fun r74 => some (r74.1, r74.2.1.2, 0)) (fun e83 => (block_Read_1_stop (([] : List ((List (Int × Int)) × Int × Int)), ([] : List (List (List Int)))) 0 0 e83).bind fun rr85 => some (rr85.1, rr85.2.1, rr85.2.2))
noncomputable def block_Parse (b1 : List Int) : Option (((List ((List (Int × Int)) × Int × Int)) × (List (List (List Int)))) × Int) :=
  (block_Read b1).bind fun r40 => if (!decide (r40.2.2 = 0)) then (some ((([] : List ((List (Int × Int)) × Int × Int)), ([] : List (List (List Int)))), r40.2.2)) else (if (decide (r40.2.1 < (b1.length : Int))) then (some ((([] : List ((List (Int × Int)) × Int × Int)), ([] : List (List (List Int)))), 3)) else (some (r40.1, 0)))
end Go.Proofs.Ytaobbaohelpdgaa
