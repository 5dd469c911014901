/-
  Chapter 20. Said plainly. No program in sight.
-/
import Derived.Test.YtehmjkdgakinbaaSp2
import Derived.Test.YtehmjkdgakinbaaSp3
import Derived.Test.YtehmjkdgakinbaaSp5
namespace Go.Proofs.Ytehmjkdgakinbaa
set_option linter.unusedVariables false
noncomputable def ref01_May (p1 : Int × Int) : Option (Bool) :=
  (some ((decide ((-16777216) ≤ p1.1)) && (decide (p1.1 ≤ 16777216)))).bind fun x20 => (some (x20 && (decide ((-16777216) ≤ p1.2)))).bind fun x21 => some (x21 && (decide (p1.2 ≤ 16777216)))
noncomputable def ref06_Right (b1 : (Int × Int) × (Int × Int)) : Option (Bool) :=
  (ref01_May b1.1).bind fun r21 => (gd r21 (ref01_May b1.2) false).bind fun r22 => (some ((r21 && r22) && (decide (b1.1.1 ≤ b1.2.1)))).bind fun x23 => some (x23 && (decide (b1.1.2 ≤ b1.2.2)))
noncomputable def ref06_Meet (x1 : (Int × Int) × (Int × Int)) (b2 : (Int × Int) × (Int × Int)) : Option (Bool) :=
  (ref06_Right x1).bind fun r32 => (gd (!(!r32)) (ref06_Right b2) false).bind fun r33 => if ((!r32) || (!r33)) then (some false) else ((some ((decide ((mx x1.1.1 b2.1.1) ≤ (mn x1.2.1 b2.2.1))) && (decide ((mx x1.1.2 b2.1.2) ≤ (mn x1.2.2 b2.2.2))))).bind fun x39 => some x39)
noncomputable def ref20_Of_b1 (p2 : Int × Int) (r92 : List (Int × Int × Int)) (i119 : Int) : Option (Int ⊕ ((Int × Int × Int) × Bool)) :=
  if (decide (0 ≤ i119)) then ((ix r92 i119).bind fun x147 => (ref20_Window x147 0).bind fun r148 => (ref06_Meet r148.1 (p2, p2)).bind fun r153 => if r153 then ((ix r92 i119).bind fun x157 => Option.map Sum.inr (some (x157, true))) else (some (Sum.inl (sb i119 1)))) else (Option.map Sum.inr (some ((0, 0, 0), false)))
noncomputable def ref20_Of_l1 (p2 : Int × Int) (r92 : List (Int × Int × Int)) (s : Int) : Option ((Int × Int × Int) × Bool) := loopO (fun s => ref20_Of_b1 p2 r92 s) s
noncomputable def ref20_Of (z1 : Int) (p2 : Int × Int) : Option ((Int × Int × Int) × Bool) :=
  (ref20_All z1).bind fun r92 => ref20_Of_l1 p2 r92 (sb (r92.length : Int) 1)
noncomputable def ref20_Shown_k2 (i456 : Int) (out640 : List (Int × Int × Int)) : Option (((List (Int × Int × Int)) × Int) ⊕ (List (Int × Int × Int))) :=
  some (Sum.inl (out640, ad i456 1))
noncomputable def ref20_Shown_b1 (b2 : Int) (box3 : (Int × Int) × (Int × Int)) (r349 : List (Int × Int × Int)) (out454 : List (Int × Int × Int)) (i456 : Int) : Option (((List (Int × Int × Int)) × Int) ⊕ (List (Int × Int × Int))) :=
  if (decide (i456 < (r349.length : Int))) then ((ix r349 i456).bind fun x645 => (ref20_Window x645 b2).bind fun r646 => (some ((decide (r646.1.1.1 < box3.2.1)) && (decide (box3.1.1 < r646.1.2.1)))).bind fun x651 => (some (x651 && (decide (r646.1.1.2 < box3.2.2)))).bind fun x652 => (some (x652 && (decide (box3.1.2 < r646.1.2.2)))).bind fun x653 => if x653 then ((ix r349 i456).bind fun x659 => (app out454 [x659]).bind fun x662 => ref20_Shown_k2 i456 x662) else (ref20_Shown_k2 i456 out454)) else (Option.map Sum.inr (some out454))
noncomputable def ref20_Shown_l1 (b2 : Int) (box3 : (Int × Int) × (Int × Int)) (r349 : List (Int × Int × Int)) (s : (List (Int × Int × Int)) × Int) : Option (List (Int × Int × Int)) := loopO (fun s => ref20_Shown_b1 b2 box3 r349 s.1 s.2) s
noncomputable def ref20_Shown (z1 : Int) (b2 : Int) (box3 : (Int × Int) × (Int × Int)) : Option (List (Int × Int × Int)) :=
  (some ((decide (b2 < 0)) || (decide (2047 < b2)))).bind fun x343 => (gd (!x343) (ref06_Right box3) false).bind fun r344 => if (x343 || (!r344)) then (some ([] : List (Int × Int × Int))) else ((ref20_All z1).bind fun r349 => ref20_Shown_l1 b2 box3 r349 (([] : List (Int × Int × Int)), 0))
end Go.Proofs.Ytehmjkdgakinbaa
