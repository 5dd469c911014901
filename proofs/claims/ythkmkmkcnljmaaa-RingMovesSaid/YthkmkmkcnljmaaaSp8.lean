/-
  Chapter 03. Said plainly. No program in sight.
-/
import Derived.Test.YthkmkmkcnljmaaaSp4
import Derived.Test.YthkmkmkcnljmaaaSp6
namespace Go.Proofs.Ythkmkmkcnljmaaa
set_option linter.unusedVariables false
noncomputable def ref01_May (p1 : Int × Int) : Option (Bool) :=
  (some ((decide ((-16777216) ≤ p1.1)) && (decide (p1.1 ≤ 16777216)))).bind fun x20 => (some (x20 && (decide ((-16777216) ≤ p1.2)))).bind fun x21 => some (x21 && (decide (p1.2 ≤ 16777216)))
noncomputable def ref01_All_b1 (l1 : List (Int × Int)) (i70 : Int) : Option (Int ⊕ Bool) :=
  if (decide (i70 < (l1.length : Int))) then ((ix l1 i70).bind fun x90 => (ref01_May x90).bind fun r91 => if (!r91) then (Option.map Sum.inr (some false)) else (some (Sum.inl (ad i70 1)))) else (Option.map Sum.inr (some true))
noncomputable def ref01_All_l1 (l1 : List (Int × Int)) (s : Int) : Option (Bool) := loopO (fun s => ref01_All_b1 l1 s) s
noncomputable def ref01_All (l1 : List (Int × Int)) : Option (Bool) :=
  ref01_All_l1 l1 0
noncomputable def ref03_Area_b1 (l1 : List (Int × Int)) (n101 : Int) (i102 : Int) : Option ((Int × Int) ⊕ Int) :=
  if (decide (i102 < (l1.length : Int))) then ((ix l1 i102).bind fun x129 => (rmK (ad i102 1) (l1.length : Int)).bind fun x130 => (ix l1 x130).bind fun x131 => (some (sb (ad n101 (ml x129.1 x131.2)) (ml x131.1 x129.2))).bind fun x139 => some (Sum.inl (x139, ad i102 1))) else (Option.map Sum.inr (some n101))
noncomputable def ref03_Area_l1 (l1 : List (Int × Int)) (s : Int × Int) : Option (Int) := loopO (fun s => ref03_Area_b1 l1 s.1 s.2) s
noncomputable def ref03_Area (l1 : List (Int × Int)) : Option (Int) :=
  ref03_Area_l1 l1 (0, 0)
noncomputable def ref01_Cross (x1 : Int × Int) (b2 : Int × Int) (c3 : Int × Int) : Option (Int) :=
  (some (ad (sb (ml x1.1 b2.2) (ml b2.1 x1.2)) (ml b2.1 c3.2))).bind fun x28 => (some (ad (sb x28 (ml c3.1 b2.2)) (ml c3.1 x1.2))).bind fun x29 => some (sb x29 (ml x1.1 c3.2))
noncomputable def ref01_On (x1 : Int × Int) (b2 : Int × Int) (p3 : Int × Int) : Option (Bool) :=
  if (decide (x1 = b2)) then (some (decide (p3 = x1))) else ((some (ad (ml (sb p3.1 x1.1) (sb b2.1 x1.1)) (ml (sb p3.2 x1.2) (sb b2.2 x1.2)))).bind fun x40 => (some (ad (ml (sb b2.1 x1.1) (sb b2.1 x1.1)) (ml (sb b2.2 x1.2) (sb b2.2 x1.2)))).bind fun x42 => (ref01_Cross x1 b2 p3).bind fun r44 => (some ((decide (r44 = 0)) && (decide (0 ≤ x40)))).bind fun x45 => some (x45 && (decide (x40 ≤ x42))))
noncomputable def ref01_Sign (n1 : Int) : Option (Int) :=
  if (decide (0 < n1)) then (some 1) else (if (decide (n1 < 0)) then (some (-1)) else (some 0))
noncomputable def ref02_Class_k2 (i439 : Int) (n545 : Int) (both546 : Int) : Option ((Int × Int × Int) ⊕ Int) :=
  some (Sum.inl (n545, both546, ad i439 1))
noncomputable def ref02_Class_k4 (i602 : Int) (m663 : Int) : Option ((Int × Int) ⊕ Int) :=
  some (Sum.inl (m663, ad i602 1))
noncomputable def ref02_Class_b3 (x1 : Int × Int) (b2 : Int × Int) (c3 : Int × Int) (d4 : Int × Int) (n437 : Int) (both438 : Int) (m601 : Int) (i602 : Int) : Option ((Int × Int) ⊕ Int) :=
  if (decide (i602 < 2)) then ((ix [c3, d4] i602).bind fun x667 => (ref01_On x1 b2 x667).bind fun r668 => if r668 then (ref02_Class_k4 i602 (ad m601 1)) else (ref02_Class_k4 i602 m601)) else (Option.map Sum.inr (if (decide (1 < (sb (ad n437 m601) both438))) then (some 4) else (if (decide ((sb (ad n437 m601) both438) = 1)) then (if (decide (both438 = 1)) then (some 1) else (some 2)) else ((ref01_Cross x1 b2 c3).bind fun r685 => (ref01_Sign r685).bind fun r686 => (ref01_Cross x1 b2 d4).bind fun r687 => (ref01_Sign r687).bind fun r688 => (ref01_Cross c3 d4 x1).bind fun r690 => (ref01_Sign r690).bind fun r691 => (ref01_Cross c3 d4 b2).bind fun r692 => (ref01_Sign r692).bind fun r693 => (some ((!decide (r686 = r688)) && (!decide (r691 = r693)))).bind fun x696 => if x696 then (some 3) else (some 0)))))
noncomputable def ref02_Class_l3 (x1 : Int × Int) (b2 : Int × Int) (c3 : Int × Int) (d4 : Int × Int) (n437 : Int) (both438 : Int) (s : Int × Int) : Option (Int) := loopO (fun s => ref02_Class_b3 x1 b2 c3 d4 n437 both438 s.1 s.2) s
noncomputable def ref02_Class_b1 (x1 : Int × Int) (b2 : Int × Int) (c3 : Int × Int) (d4 : Int × Int) (n437 : Int) (both438 : Int) (i439 : Int) : Option ((Int × Int × Int) ⊕ Int) :=
  if (decide (i439 < 2)) then ((ix [x1, b2] i439).bind fun x550 => (ref01_On c3 d4 x550).bind fun r551 => if r551 then ((ix [x1, b2] i439).bind fun x555 => (gd (!(decide (x555 = c3))) (ix [x1, b2] i439) (0, 0)).bind fun x556 => (some ((decide (x555 = c3)) || (decide (x556 = d4)))).bind fun x557 => if x557 then (ref02_Class_k2 i439 (ad n437 1) (ad both438 1)) else (ref02_Class_k2 i439 (ad n437 1) both438)) else (ref02_Class_k2 i439 n437 both438)) else (Option.map Sum.inr (ref02_Class_l3 x1 b2 c3 d4 n437 both438 (0, 0)))
noncomputable def ref02_Class_l1 (x1 : Int × Int) (b2 : Int × Int) (c3 : Int × Int) (d4 : Int × Int) (s : Int × Int × Int) : Option (Int) := loopO (fun s => ref02_Class_b1 x1 b2 c3 d4 s.1 s.2.1 s.2.2) s
noncomputable def ref02_Class (x1 : Int × Int) (b2 : Int × Int) (c3 : Int × Int) (d4 : Int × Int) : Option (Int) :=
  (some ((decide (x1 = c3)) && (decide (b2 = d4)))).bind fun x366 => (some ((decide (x1 = d4)) && (decide (b2 = c3)))).bind fun x367 => if (x366 || x367) then (some 5) else (ref02_Class_l1 x1 b2 c3 d4 (0, 0, 0))
end Go.Proofs.Ythkmkmkcnljmaaa
