/-
  Chapter 20. Said plainly. No program in sight.
-/
import Derived.Test.YtehmjkdgakinbaaSp2
import Derived.Test.YtehmjkdgakinbaaSp3
import Derived.Test.YtehmjkdgakinbaaSp4
import Derived.Test.YtehmjkdgakinbaaSp5
import Derived.Test.YtehmjkdgakinbaaSp6
namespace Go.Proofs.Ytehmjkdgakinbaa
set_option linter.unusedVariables false
noncomputable def exact_Less (x1 : Int × Int) (b2 : Int × Int) : Option (Bool) :=
  (some ((decide (x1.1 = b2.1)) && (decide (x1.2 < b2.2)))).bind fun x23 => some ((decide (x1.1 < b2.1)) || x23)
noncomputable def window_Less (x1 : Int × Int × Int) (b2 : Int × Int × Int) : Option (Bool) :=
  if (!decide (x1.1 = b2.1)) then (some (decide (x1.1 < b2.1))) else ((exact_Less x1.2 b2.2).bind fun r31 => some r31)
noncomputable def ref20_Less (x1 : Int × Int × Int) (b2 : Int × Int × Int) : Option (Bool) :=
  if (!decide (x1.1 = b2.1)) then (some (decide (x1.1 < b2.1))) else (if (!decide (x1.2.1 = b2.2.1)) then (some (decide (x1.2.1 < b2.2.1))) else (some (decide (x1.2.2 < b2.2.2))))
noncomputable def window_All_b2 (z1 : Int) (x292 : Int) (r366 : Int) (out387 : List (Int × Int × Int)) (x389 : Int) : Option (((List (Int × Int × Int)) × Int) ⊕ (((List (Int × Int × Int)) × Int) ⊕ (List (Int × Int × Int)))) :=
  if (decide (x389 < r366)) then ((app out387 [(z1, x292, x389)]).bind fun x418 => some (Sum.inl (x418, ad x389 1))) else (Option.map Sum.inr (some (Sum.inl (out387, ad x292 1))))
noncomputable def window_All_l2 (z1 : Int) (x292 : Int) (r366 : Int) (s : (List (Int × Int × Int)) × Int) : Option (((List (Int × Int × Int)) × Int) ⊕ (List (Int × Int × Int))) := loopO (fun s => window_All_b2 z1 x292 r366 s.1 s.2) s
noncomputable def window_All_b1 (z1 : Int) (r221 : Int) (out290 : List (Int × Int × Int)) (x292 : Int) : Option (((List (Int × Int × Int)) × Int) ⊕ (List (Int × Int × Int))) :=
  if (decide (x292 < r221)) then ((window_count z1).bind fun r366 => window_All_l2 z1 x292 r366 (out290, 0)) else (Option.map Sum.inr (some out290))
noncomputable def window_All_l1 (z1 : Int) (r221 : Int) (s : (List (Int × Int × Int)) × Int) : Option (List (Int × Int × Int)) := loopO (fun s => window_All_b1 z1 r221 s.1 s.2) s
noncomputable def window_All (z1 : Int) : Option (List (Int × Int × Int)) :=
  (window_count z1).bind fun r221 => window_All_l1 z1 r221 (([] : List (Int × Int × Int)), 0)
noncomputable def law20_WindowTiles_k1 (x1 : Int × Int × Int) (r136 : (Int × Int × Int) × Bool) (r145 : Bool) (want157 : Int × Int × Int) : Option (Bool) :=
  (law20_known).bind fun r160 => (some (r160 && (r136.2 == (r145 && (decide (0 < x1.1)))))).bind fun x161 => (some (x161 && (decide (r136.1 = want157)))).bind fun x162 => some x162
noncomputable def law20_WindowTiles (x1 : Int × Int × Int) (b2 : Int × Int × Int) (buffer3 : Int) : Option (Bool) :=
  (window_Window x1 buffer3).bind fun r96 => (ref20_Window x1 buffer3).bind fun r101 => (window_Place x1).bind fun r106 => (ref20_Window x1 0).bind fun r111 => (window_Right x1).bind fun r117 => (ref20_Right x1).bind fun r118 => (some ((!(r117 == r118)) || (!(r96.2 == r101.2)))).bind fun x119 => (gd (!x119) (law20_box r96.1) ((0, 0), (0, 0))).bind fun r120 => (some ((x119 || (!decide (r120 = r101.1))) || (!(r106.2 == r111.2)))).bind fun x121 => (gd (!x121) (law20_box r106.1) ((0, 0), (0, 0))).bind fun r122 => (gd (!(x121 || (!decide (r122 = r111.1)))) (window_Less x1 b2) false).bind fun r123 => (gd (!(x121 || (!decide (r122 = r111.1)))) (ref20_Less x1 b2) false).bind fun r124 => (some ((x121 || (!decide (r122 = r111.1))) || (!(r123 == r124)))).bind fun x125 => (gd (!x125) (window_All x1.1) []).bind fun r126 => (gd (!x125) (ref20_All x1.1) []).bind fun r129 => (gd (!x125) (law20_same r126 r129) false).bind fun r132 => if (x125 || (!r132)) then (some false) else ((window_Parent x1).bind fun r136 => (ref20_Right x1).bind fun r145 => if (r145 && (decide (0 < x1.1))) then ((quK .i64 x1.2.1 2).bind fun x168 => (quK .i64 x1.2.2 2).bind fun x169 => law20_WindowTiles_k1 x1 r136 r145 (sb x1.1 1, x168, x169)) else (law20_WindowTiles_k1 x1 r136 r145 (0, 0, 0)))
end Go.Proofs.Ytehmjkdgakinbaa
