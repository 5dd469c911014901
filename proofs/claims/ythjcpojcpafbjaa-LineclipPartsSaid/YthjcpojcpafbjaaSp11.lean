/-
  Chapter 22. Said plainly. No program in sight.
-/
import Derived.Test.YthjcpojcpafbjaaSp2
import Derived.Test.YthjcpojcpafbjaaSp3
import Derived.Test.YthjcpojcpafbjaaSp4
import Derived.Test.YthjcpojcpafbjaaSp5
import Derived.Test.YthjcpojcpafbjaaSp6
import Derived.Test.YthjcpojcpafbjaaSp7
namespace Go.Proofs.Ythjcpojcpafbjaa
set_option linter.unusedVariables false
noncomputable def law21_Box (b1 : (Int × Int) × (Int × Int)) : Option ((Int × Int) × (Int × Int)) :=
  (law01_Of b1.1).bind fun r29 => (law01_Of b1.2).bind fun r30 => some (r29, r30)
noncomputable def ref06_Right (b1 : (Int × Int) × (Int × Int)) : Option (Bool) :=
  (ref01_May b1.1).bind fun r21 => (gd r21 (ref01_May b1.2) false).bind fun r22 => (some ((r21 && r22) && (decide (b1.1.1 ≤ b1.2.1)))).bind fun x23 => some (x23 && (decide (b1.1.2 ≤ b1.2.2)))
noncomputable def ref06_Meet (x1 : (Int × Int) × (Int × Int)) (b2 : (Int × Int) × (Int × Int)) : Option (Bool) :=
  (ref06_Right x1).bind fun r32 => (gd (!(!r32)) (ref06_Right b2) false).bind fun r33 => if ((!r32) || (!r33)) then (some false) else ((some ((decide ((mx x1.1.1 b2.1.1) ≤ (mn x1.2.1 b2.2.1))) && (decide ((mx x1.1.2 b2.1.2) ≤ (mn x1.2.2 b2.2.2))))).bind fun x39 => some x39)
noncomputable def ref22_Shown (p1 : Int × Int) (q2 : Int × Int) (b3 : (Int × Int) × (Int × Int)) : Option (Bool) :=
  (gd (!(decide (p1 = q2))) (ref06_Meet b3 (p1, p1)) false).bind fun r40 => (gd (!((decide (p1 = q2)) || (!r40))) (ref06_Meet b3 (q2, q2)) false).bind fun r41 => (some (((decide (p1 = q2)) || (!r40)) || (!r41))).bind fun x42 => if x42 then (some false) else ((some ((decide (p1.1 = b3.1.1)) && (decide (q2.1 = b3.1.1)))).bind fun x46 => (some ((decide (p1.1 = b3.2.1)) && (decide (q2.1 = b3.2.1)))).bind fun x47 => (some ((decide (p1.2 = b3.1.2)) && (decide (q2.2 = b3.1.2)))).bind fun x49 => (some ((decide (p1.2 = b3.2.2)) && (decide (q2.2 = b3.2.2)))).bind fun x50 => some ((!(x46 || x47)) && (!(x49 || x50))))
noncomputable def ref22_Parts_k3 (i438 : Int) (r550 : Bool) (out599 : List (List (Int × Int))) : Option (((List (List (Int × Int))) × Bool × Int) ⊕ (List (List (Int × Int)))) :=
  some (Sum.inl (out599, r550, ad i438 1))
noncomputable def ref22_Parts_k2 (l1 : List (Int × Int)) (i438 : Int) (r550 : Bool) (out572 : List (List (Int × Int))) : Option (((List (List (Int × Int))) × Bool × Int) ⊕ (List (List (Int × Int)))) :=
  if r550 then ((ix out572 (sb (out572.length : Int) 1)).bind fun x614 => (ix l1 i438).bind fun x616 => (app x614 [x616]).bind fun x619 => (ix out572 (sb (out572.length : Int) 1)).bind fun x622 => (put out572 (sb (out572.length : Int) 1) x619).bind fun l623 => ref22_Parts_k3 i438 r550 l623) else (ref22_Parts_k3 i438 r550 out572)
noncomputable def ref22_Parts_b1 (l1 : List (Int × Int)) (b2 : (Int × Int) × (Int × Int)) (out434 : List (List (Int × Int))) (goes437 : Bool) (i438 : Int) : Option (((List (List (Int × Int))) × Bool × Int) ⊕ (List (List (Int × Int)))) :=
  if (decide (i438 < (l1.length : Int))) then ((ix l1 (sb i438 1)).bind fun x548 => (ix l1 i438).bind fun x549 => (ref22_Shown x548 x549 b2).bind fun r550 => if (r550 && (!goes437)) then ((ix l1 (sb i438 1)).bind fun x634 => (app out434 [[x634]]).bind fun x639 => ref22_Parts_k2 l1 i438 r550 x639) else (ref22_Parts_k2 l1 i438 r550 out434)) else (Option.map Sum.inr (some out434))
noncomputable def ref22_Parts_l1 (l1 : List (Int × Int)) (b2 : (Int × Int) × (Int × Int)) (s : (List (List (Int × Int))) × Bool × Int) : Option (List (List (Int × Int))) := loopO (fun s => ref22_Parts_b1 l1 b2 s.1 s.2.1 s.2.2) s
noncomputable def ref22_Parts (l1 : List (Int × Int)) (b2 : (Int × Int) × (Int × Int)) : Option (List (List (Int × Int))) :=
  ref22_Parts_l1 l1 b2 (([] : List (List (Int × Int))), false, 1)
end Go.Proofs.Ythjcpojcpafbjaa
