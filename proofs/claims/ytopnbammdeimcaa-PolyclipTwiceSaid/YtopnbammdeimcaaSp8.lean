/-
  Chapter 21. Said plainly. No program in sight.
-/
import Derived.Test.YtopnbammdeimcaaSp4
import Derived.Test.YtopnbammdeimcaaSp5
namespace Go.Proofs.Ytopnbammdeimcaa
set_option linter.unusedVariables false
noncomputable def rows_Meet (x1 : (Int × Int) × (Int × Int)) (b2 : (Int × Int) × (Int × Int)) : Option (Bool) :=
  (rows_Right x1).bind fun r26 => (gd r26 (rows_Right b2) false).bind fun r27 => (some ((r26 && r27) && (decide (x1.1.1 ≤ b2.2.1)))).bind fun x28 => (some ((x28 && (decide (b2.1.1 ≤ x1.2.1))) && (decide (x1.1.2 ≤ b2.2.2)))).bind fun x29 => some (x29 && (decide (b2.1.2 ≤ x1.2.2)))
noncomputable def exact_Turn (x1 : Int × Int) (b2 : Int × Int) (c3 : Int × Int) : Option (Int) :=
  (exact_Cross x1 b2 c3).bind fun r37 => if (decide (0 < r37)) then (some 1) else (if (decide (r37 < 0)) then (some (-1)) else (some 0))
noncomputable def exact_Less (x1 : Int × Int) (b2 : Int × Int) : Option (Bool) :=
  (some ((decide (x1.1 = b2.1)) && (decide (x1.2 < b2.2)))).bind fun x23 => some ((decide (x1.1 < b2.1)) || x23)
noncomputable def seg_line_k2 (x92 : Int × Int) (b94 : Int × Int) (c106 : Int × Int) (d108 : Int × Int) : Option (Int) :=
  (exact_Less b94 c106).bind fun r113 => (gd (!r113) (exact_Less d108 x92) false).bind fun r114 => if (r113 || r114) then (some 0) else ((some ((decide (b94 = c106)) || (decide (d108 = x92)))).bind fun x118 => if x118 then (some 1) else (some 4))
noncomputable def seg_line_k1 (c3 : Int × Int) (d4 : Int × Int) (x92 : Int × Int) (b94 : Int × Int) : Option (Int) :=
  (exact_Less d4 c3).bind fun r123 => if r123 then (seg_line_k2 x92 b94 d4 c3) else (seg_line_k2 x92 b94 c3 d4)
noncomputable def seg_line (x1 : Int × Int) (b2 : Int × Int) (c3 : Int × Int) (d4 : Int × Int) : Option (Int) :=
  (exact_Less b2 x1).bind fun r130 => if r130 then (seg_line_k1 c3 d4 b2 x1) else (seg_line_k1 c3 d4 x1 b2)
noncomputable def seg_Class_k2 (ends132 : Int) : Option (Int × Int) :=
  (ix [3, 2, 1] ends132).bind fun x135 => some (x135, 0)
noncomputable def seg_Class_k1 (r106 : Int) (r107 : Int) (ends125 : Int) : Option (Int × Int) :=
  if (decide ((ml r106 r107) = 0)) then (seg_Class_k2 (ad ends125 1)) else (seg_Class_k2 ends125)
noncomputable def seg_Class (x1 : Int × Int) (b2 : Int × Int) (c3 : Int × Int) (d4 : Int × Int) : Option (Int × Int) :=
  (exact_Right [x1, b2, c3, d4]).bind fun r90 => if (!r90) then (some (0, 5)) else ((some ((decide (x1 = b2)) || (decide (c3 = d4)))).bind fun x94 => if x94 then (some (0, 1)) else ((some ((decide (x1 = c3)) && (decide (b2 = d4)))).bind fun x98 => (some ((decide (x1 = d4)) && (decide (b2 = c3)))).bind fun x99 => if (x98 || x99) then (some (5, 0)) else ((exact_Turn x1 b2 c3).bind fun r103 => (exact_Turn x1 b2 d4).bind fun r104 => (exact_Turn c3 d4 x1).bind fun r106 => (exact_Turn c3 d4 b2).bind fun r107 => (some ((decide (r103 = 0)) && (decide (r104 = 0)))).bind fun x110 => if x110 then ((seg_line x1 b2 c3 d4).bind fun r113 => some (r113, 0)) else ((some ((decide (0 < (ml r103 r104))) || (decide (0 < (ml r106 r107))))).bind fun x116 => if x116 then (some (0, 0)) else (if (decide ((ml r103 r104) = 0)) then (seg_Class_k1 r106 r107 1) else (seg_Class_k1 r106 r107 0))))))
end Go.Proofs.Ytopnbammdeimcaa
