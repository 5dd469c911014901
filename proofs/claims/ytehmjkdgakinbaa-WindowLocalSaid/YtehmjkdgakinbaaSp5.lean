/-
  Chapter 20. Said plainly. No program in sight.
-/
import Derived.Test.YtehmjkdgakinbaaSp2
import Derived.Test.YtehmjkdgakinbaaSp3
namespace Go.Proofs.Ytehmjkdgakinbaa
set_option linter.unusedVariables false
noncomputable def ref16_Level (z1 : Int) : Option (Bool) :=
  (some ((decide (0 ≤ z1)) && (decide (z1 ≤ 4)))).bind fun x15 => some x15
noncomputable def ref01_Power_b1 (s1 : Int) (n57 : Int) (i58 : Int) : Option ((Int × Int) ⊕ Int) :=
  if (decide (i58 < s1)) then (some (Sum.inl (ml 2 n57, ad i58 1))) else (Option.map Sum.inr (some n57))
noncomputable def ref01_Power_l1 (s1 : Int) (s : Int × Int) : Option (Int) := loopO (fun s => ref01_Power_b1 s1 s.1 s.2) s
noncomputable def ref01_Power (s1 : Int) : Option (Int) :=
  ref01_Power_l1 s1 (1, 0)
noncomputable def ref20_Right (t1 : Int × Int × Int) : Option (Bool) :=
  (ref16_Level t1.1).bind fun r23 => (gd (r23 && (decide (0 ≤ t1.2.1))) (ref01_Power t1.1) 0).bind fun r24 => (some ((r23 && (decide (0 ≤ t1.2.1))) && (decide (t1.2.1 < r24)))).bind fun x25 => (gd (x25 && (decide (0 ≤ t1.2.2))) (ref01_Power t1.1) 0).bind fun r26 => (some ((x25 && (decide (0 ≤ t1.2.2))) && (decide (t1.2.2 < r26)))).bind fun x27 => some x27
noncomputable def ref20_Window (t1 : Int × Int × Int) (b2 : Int) : Option (((Int × Int) × (Int × Int)) × Bool) :=
  (ref20_Right t1).bind fun r31 => (some (((!r31) || (decide (b2 < 0))) || (decide (2047 < b2)))).bind fun x32 => if x32 then (some (((0, 0), (0, 0)), false)) else (some (((sb (ml 4096 t1.2.1) b2, sb (ml 4096 t1.2.2) b2), (ad (ad (ml 4096 t1.2.1) 4096) b2, ad (ad (ml 4096 t1.2.2) 4096) b2)), true))
noncomputable def ref20_All_b2 (z1 : Int) (x296 : Int) (out389 : List (Int × Int × Int)) (y391 : Int) : Option (((List (Int × Int × Int)) × Int) ⊕ (((List (Int × Int × Int)) × Int) ⊕ (List (Int × Int × Int)))) :=
  (ref01_Power z1).bind fun r411 => if (decide (y391 < r411)) then ((app out389 [(z1, x296, y391)]).bind fun x420 => some (Sum.inl (x420, ad y391 1))) else (Option.map Sum.inr (some (Sum.inl (out389, ad x296 1))))
noncomputable def ref20_All_l2 (z1 : Int) (x296 : Int) (s : (List (Int × Int × Int)) × Int) : Option (((List (Int × Int × Int)) × Int) ⊕ (List (Int × Int × Int))) := loopO (fun s => ref20_All_b2 z1 x296 s.1 s.2) s
noncomputable def ref20_All_b1 (z1 : Int) (out294 : List (Int × Int × Int)) (x296 : Int) : Option (((List (Int × Int × Int)) × Int) ⊕ (List (Int × Int × Int))) :=
  (ref01_Power z1).bind fun r364 => if (decide (x296 < r364)) then (ref20_All_l2 z1 x296 (out294, 0)) else (Option.map Sum.inr (some out294))
noncomputable def ref20_All_l1 (z1 : Int) (s : (List (Int × Int × Int)) × Int) : Option (List (Int × Int × Int)) := loopO (fun s => ref20_All_b1 z1 s.1 s.2) s
noncomputable def ref20_All (z1 : Int) : Option (List (Int × Int × Int)) :=
  (ref16_Level z1).bind fun r222 => if (!r222) then (some ([] : List (Int × Int × Int))) else (ref20_All_l1 z1 (([] : List (Int × Int × Int)), 0))
noncomputable def law20_same_b1 (l1 : List (Int × Int × Int)) (x2 : List (Int × Int × Int)) (i78 : Int) : Option (Int ⊕ Bool) :=
  if (decide (i78 < (l1.length : Int))) then ((ix l1 i78).bind fun x98 => (ix x2 i78).bind fun x99 => if (!decide (x98 = x99)) then (Option.map Sum.inr (some false)) else (some (Sum.inl (ad i78 1)))) else (Option.map Sum.inr (some true))
noncomputable def law20_same_l1 (l1 : List (Int × Int × Int)) (x2 : List (Int × Int × Int)) (s : Int) : Option (Bool) := loopO (fun s => law20_same_b1 l1 x2 s) s
noncomputable def law20_same (l1 : List (Int × Int × Int)) (x2 : List (Int × Int × Int)) : Option (Bool) :=
  if (!decide ((l1.length : Int) = (x2.length : Int))) then (some false) else (law20_same_l1 l1 x2 0)
noncomputable def law20_box (b1 : (Int × Int) × (Int × Int)) : Option ((Int × Int) × (Int × Int)) :=
  (law01_Of b1.1).bind fun r29 => (law01_Of b1.2).bind fun r30 => some (r29, r30)
end Go.Proofs.Ytehmjkdgakinbaa
