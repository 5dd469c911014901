/-
  Chapter 22. Said plainly. No program in sight.
-/
import Derived.Test.YthjcpojcpafbjaaPre
namespace Go.Proofs.Ythjcpojcpafbjaa
set_option linter.unusedVariables false
noncomputable def law03_Cut (l1 : List (Int × Int)) : Option (List (Int × Int)) :=
  (cut l1 0 (mn (l1.length : Int) 40)).bind fun x17 => some x17
noncomputable def exact_within (n1 : Int) (least2 : Int) (greatest3 : Int) : Option (Bool) :=
  (some ((decide (least2 ≤ n1)) && (decide (n1 ≤ greatest3)))).bind fun x15 => some x15
noncomputable def exact_Right_b1 (l1 : List (Int × Int)) (x90 : Int) : Option (Int ⊕ Bool) :=
  if (decide (x90 < (l1.length : Int))) then ((ix l1 x90).bind fun x115 => (exact_within x115.1 (-16777216) 16777216).bind fun r120 => (gd (!(!r120)) (exact_within x115.2 (-16777216) 16777216) false).bind fun r121 => if ((!r120) || (!r121)) then (Option.map Sum.inr (some false)) else (some (Sum.inl (ad x90 1)))) else (Option.map Sum.inr (some true))
noncomputable def exact_Right_l1 (l1 : List (Int × Int)) (s : Int) : Option (Bool) := loopO (fun s => exact_Right_b1 l1 s) s
noncomputable def exact_Right (l1 : List (Int × Int)) : Option (Bool) :=
  exact_Right_l1 l1 0
noncomputable def rows_Right (b1 : (Int × Int) × (Int × Int)) : Option (Bool) :=
  (exact_Right [b1.1, b1.2]).bind fun r24 => (some ((r24 && (decide (b1.1.1 ≤ b1.2.1))) && (decide (b1.1.2 ≤ b1.2.2)))).bind fun x25 => some x25
noncomputable def lineclip_within (p1 : Int × Int) (b2 : (Int × Int) × (Int × Int)) : Option (Bool) :=
  (some ((decide (b2.1.1 ≤ p1.1)) && (decide (p1.1 ≤ b2.2.1)))).bind fun x24 => (some ((x24 && (decide (b2.1.2 ≤ p1.2))) && (decide (p1.2 ≤ b2.2.2)))).bind fun x25 => some x25
noncomputable def lineclip_side (p1 : Int) (q2 : Int) (low3 : Int) (high4 : Int) : Option (Bool) :=
  (some ((decide (p1 = low3)) || (decide (p1 = high4)))).bind fun x15 => some ((decide (p1 = q2)) && x15)
noncomputable def lineclip_Shown (p1 : Int × Int) (q2 : Int × Int) (b3 : (Int × Int) × (Int × Int)) : Option (Bool) :=
  (gd (!decide (p1 = q2)) (exact_Right [p1, q2]) false).bind fun r38 => (gd ((!decide (p1 = q2)) && r38) (rows_Right b3) false).bind fun r39 => (some (((!decide (p1 = q2)) && r38) && r39)).bind fun x40 => (gd x40 (lineclip_within p1 b3) false).bind fun r41 => (gd (x40 && r41) (lineclip_within q2 b3) false).bind fun r42 => (gd ((x40 && r41) && r42) (lineclip_side p1.1 q2.1 b3.1.1 b3.2.1) false).bind fun r43 => (gd (((x40 && r41) && r42) && (!r43)) (lineclip_side p1.2 q2.2 b3.1.2 b3.2.2) false).bind fun r44 => (some ((((x40 && r41) && r42) && (!r43)) && (!r44))).bind fun x45 => some x45
noncomputable def lineclip_Parts_b1_0 (l1 : List (Int × Int)) (b2 : (Int × Int) × (Int × Int)) (out450 : List (List (Int × Int))) (x453 : Int) : Option ((((List (List (Int × Int))) × Int) ⊕ ((List (List (Int × Int))) × Int × Int)) ⊕ (List (List (Int × Int)))) :=
  if (decide ((l1.length : Int) ≤ x453)) then (Option.map Sum.inr (some out450)) else ((ix l1 (sb x453 1)).bind fun x546 => (ix l1 x453).bind fun x547 => (lineclip_Shown x546 x547 b2).bind fun r548 => if (!r548) then (some (Sum.inl (Sum.inl (out450, ad x453 1)))) else ((gd (decide ((ad x453 1) < (l1.length : Int))) (ix l1 (sb (ad x453 1) 1)) (0, 0)).bind fun x555 => (gd (decide ((ad x453 1) < (l1.length : Int))) (ix l1 (ad x453 1)) (0, 0)).bind fun x556 => (gd (decide ((ad x453 1) < (l1.length : Int))) (lineclip_Shown x555 x556 b2) false).bind fun r557 => (some ((decide ((ad x453 1) < (l1.length : Int))) && r557)).bind fun x558 => if x558 then (some (Sum.inl (Sum.inr (out450, sb x453 1, ad x453 1)))) else ((cut l1 (sb x453 1) (ad x453 1)).bind fun x569 => (app ([] : List (Int × Int)) x569).bind fun x572 => (app out450 [x572]).bind fun x577 => some (Sum.inl (Sum.inl (x577, ad x453 1))))))
noncomputable def lineclip_Parts_b1_1 (l1 : List (Int × Int)) (b2 : (Int × Int) × (Int × Int)) (out456 : List (List (Int × Int))) (x459 : Int) (x460 : Int) : Option ((((List (List (Int × Int))) × Int) ⊕ ((List (List (Int × Int))) × Int × Int)) ⊕ (List (List (Int × Int)))) :=
  (gd (decide ((ad x460 1) < (l1.length : Int))) (ix l1 (sb (ad x460 1) 1)) (0, 0)).bind fun x587 => (gd (decide ((ad x460 1) < (l1.length : Int))) (ix l1 (ad x460 1)) (0, 0)).bind fun x588 => (gd (decide ((ad x460 1) < (l1.length : Int))) (lineclip_Shown x587 x588 b2) false).bind fun r589 => (some ((decide ((ad x460 1) < (l1.length : Int))) && r589)).bind fun x590 => if x590 then (some (Sum.inl (Sum.inr (out456, x459, ad x460 1)))) else ((cut l1 x459 (ad x460 1)).bind fun x601 => (app ([] : List (Int × Int)) x601).bind fun x604 => (app out456 [x604]).bind fun x609 => some (Sum.inl (Sum.inl (x609, ad x460 1))))
noncomputable def lineclip_Parts_l1 (l1 : List (Int × Int)) (b2 : (Int × Int) × (Int × Int)) (s : ((List (List (Int × Int))) × Int) ⊕ ((List (List (Int × Int))) × Int × Int)) : Option (List (List (Int × Int))) := loopO (Sum.elim (fun s => lineclip_Parts_b1_0 l1 b2 s.1 s.2) (fun s => lineclip_Parts_b1_1 l1 b2 s.1 s.2.1 s.2.2)) s
noncomputable def lineclip_Parts (l1 : List (Int × Int)) (b2 : (Int × Int) × (Int × Int)) : Option (List (List (Int × Int))) :=
  if (decide ((l1.length : Int) ≤ 1)) then (some ([] : List (List (Int × Int)))) else ((ix l1 0).bind fun x623 => (ix l1 1).bind fun x624 => (lineclip_Shown x623 x624 b2).bind fun r625 => if (!r625) then (lineclip_Parts_l1 l1 b2 (Sum.inl (([] : List (List (Int × Int))), 2))) else ((gd (decide (2 < (l1.length : Int))) (ix l1 1) (0, 0)).bind fun x632 => (gd (decide (2 < (l1.length : Int))) (ix l1 2) (0, 0)).bind fun x633 => (gd (decide (2 < (l1.length : Int))) (lineclip_Shown x632 x633 b2) false).bind fun r634 => (some ((decide (2 < (l1.length : Int))) && r634)).bind fun x635 => if x635 then (lineclip_Parts_l1 l1 b2 (Sum.inr (([] : List (List (Int × Int))), 0, 2))) else ((cut l1 0 2).bind fun x638 => (app ([] : List (Int × Int)) x638).bind fun x641 => (app ([] : List (List (Int × Int))) [x641]).bind fun x648 => lineclip_Parts_l1 l1 b2 (Sum.inl (x648, 2)))))
end Go.Proofs.Ythjcpojcpafbjaa
