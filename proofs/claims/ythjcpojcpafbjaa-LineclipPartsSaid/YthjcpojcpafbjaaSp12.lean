/-
  Chapter 22. Said plainly. No program in sight.
-/
import Derived.Test.YthjcpojcpafbjaaSp11
namespace Go.Proofs.Ythjcpojcpafbjaa
set_option linter.unusedVariables false
noncomputable def ref01_Sign (n1 : Int) : Option (Int) :=
  if (decide (0 < n1)) then (some 1) else (if (decide (n1 < 0)) then (some (-1)) else (some 0))
noncomputable def ref01_Floor_k1 (n1 : Int) (d2 : Int) (left33 : Int) : Option (Int) :=
  (quK .i64 (sb n1 left33) d2).bind fun x36 => some x36
noncomputable def ref01_Floor (n1 : Int) (d2 : Int) : Option (Int) :=
  (rmK n1 d2).bind fun x27 => if (decide (x27 < 0)) then (ref01_Floor_k1 n1 d2 (ad x27 d2)) else (ref01_Floor_k1 n1 d2 x27)
noncomputable def ref22_above (x1 : Int) (y2 : Int) (x3 : Int) (b4 : Int) (c5 : Int) (d6 : Int) : Option (Bool) :=
  (ref01_Floor (ml y2 x3) b4).bind fun r33 => (ref01_Floor (ml y2 c5) d6).bind fun r34 => (ref01_Floor (ml y2 x3) b4).bind fun r36 => (ref01_Floor (ml y2 c5) d6).bind fun r37 => if (decide (0 < (ad (ad r33 r34) x1))) then (some true) else (if (decide ((ad (ad r33 r34) x1) = 0)) then ((some ((decide (0 < (sb (ml y2 x3) (ml b4 r36)))) || (decide (0 < (sb (ml y2 c5) (ml d6 r37)))))).bind fun x46 => some x46) else ((some (ad (ml (sb (ml y2 x3) (ml b4 r36)) d6) (ml (sb (ml y2 c5) (ml d6 r37)) b4))).bind fun x48 => (some ((decide ((ad (ad r33 r34) x1) = (-1))) && (decide ((ml b4 d6) < x48)))).bind fun x49 => some x49))
noncomputable def ref22_strict (p1 : Int) (q2 : Int) (x3 : Int) (b4 : Int) (c5 : Int) (d6 : Int) (low7 : Int) (high8 : Int) : Option (Bool) :=
  (ref22_above (ml 2 (sb p1 low7)) (sb q2 p1) x3 b4 c5 d6).bind fun r16 => (gd r16 (ref22_above (ml 2 (sb high8 p1)) (sb p1 q2) x3 b4 c5 d6) false).bind fun r17 => some (r16 && r17)
noncomputable def ref22_inside_k2 (i2846 : Int) (n3602 : List Int) (d3606 : List Int) : Option (((List Int) × (List Int) × Int) ⊕ Bool) :=
  some (Sum.inl (n3602, d3606, ad i2846 1))
noncomputable def ref22_inside_k3 (p1 : Int × Int) (q2 : Int × Int) (b3 : (Int × Int) × (Int × Int)) (i2846 : Int) (n3644 : List Int) (d3648 : List Int) : Option (((List Int) × (List Int) × Int) ⊕ Bool) :=
  if (!decide (p1.2 = q2.2)) then ((ix [b3.1.2, b3.2.2] i2846).bind fun x3668 => (ref01_Sign (sb q2.2 p1.2)).bind fun r3669 => (app n3644 [ml (sb x3668 p1.2) r3669]).bind fun x3672 => (ref01_Sign (sb q2.2 p1.2)).bind fun r3675 => (app d3648 [ml (sb q2.2 p1.2) r3675]).bind fun x3678 => ref22_inside_k2 i2846 x3672 x3678) else (ref22_inside_k2 i2846 n3644 d3648)
noncomputable def ref22_inside_k6 (k4531 : Int) : Option (Int ⊕ (Int ⊕ Bool)) :=
  some (Sum.inl (ad k4531 1))
noncomputable def ref22_inside_b5 (p1 : Int × Int) (q2 : Int × Int) (b3 : (Int × Int) × (Int × Int)) (n2840 : List Int) (d2844 : List Int) (i4062 : Int) (k4531 : Int) : Option (Int ⊕ (Int ⊕ Bool)) :=
  if (decide (k4531 < (n2840.length : Int))) then ((ix n2840 i4062).bind fun x4733 => (gd (!(decide (x4733 < 0))) (ix n2840 k4531) 0).bind fun x4734 => (gd (!(decide (x4733 < 0))) (ix d2844 k4531) 0).bind fun x4735 => (some ((decide (x4733 < 0)) || (decide (x4735 < x4734)))).bind fun x4736 => (gd (!x4736) (ix n2840 i4062) 0).bind fun x4737 => (gd (!x4736) (ix d2844 k4531) 0).bind fun x4738 => (gd (!x4736) (ix n2840 k4531) 0).bind fun x4739 => (gd (!x4736) (ix d2844 i4062) 0).bind fun x4740 => (some (x4736 || (decide ((ml x4739 x4740) ≤ (ml x4737 x4738))))).bind fun x4741 => if x4741 then (ref22_inside_k6 k4531) else ((ix n2840 i4062).bind fun x4744 => (ix d2844 i4062).bind fun x4745 => (ix n2840 k4531).bind fun x4746 => (ix d2844 k4531).bind fun x4747 => (ref22_strict p1.1 q2.1 x4744 x4745 x4746 x4747 b3.1.1 b3.2.1).bind fun r4748 => (gd r4748 (ix n2840 i4062) 0).bind fun x4749 => (gd r4748 (ix d2844 i4062) 0).bind fun x4750 => (gd r4748 (ix n2840 k4531) 0).bind fun x4751 => (gd r4748 (ix d2844 k4531) 0).bind fun x4752 => (gd r4748 (ref22_strict p1.2 q2.2 x4749 x4750 x4751 x4752 b3.1.2 b3.2.2) false).bind fun r4753 => if (r4748 && r4753) then (Option.map Sum.inr (Option.map Sum.inr (some true))) else (ref22_inside_k6 k4531))) else (Option.map Sum.inr (some (Sum.inl (ad i4062 1))))
noncomputable def ref22_inside_l5 (p1 : Int × Int) (q2 : Int × Int) (b3 : (Int × Int) × (Int × Int)) (n2840 : List Int) (d2844 : List Int) (i4062 : Int) (s : Int) : Option (Int ⊕ Bool) := loopO (fun s => ref22_inside_b5 p1 q2 b3 n2840 d2844 i4062 s) s
noncomputable def ref22_inside_b4 (p1 : Int × Int) (q2 : Int × Int) (b3 : (Int × Int) × (Int × Int)) (n2840 : List Int) (d2844 : List Int) (i4062 : Int) : Option (Int ⊕ Bool) :=
  if (decide (i4062 < (n2840.length : Int))) then (ref22_inside_l5 p1 q2 b3 n2840 d2844 i4062 0) else (Option.map Sum.inr (some false))
noncomputable def ref22_inside_l4 (p1 : Int × Int) (q2 : Int × Int) (b3 : (Int × Int) × (Int × Int)) (n2840 : List Int) (d2844 : List Int) (s : Int) : Option (Bool) := loopO (fun s => ref22_inside_b4 p1 q2 b3 n2840 d2844 s) s
noncomputable def ref22_inside_b1 (p1 : Int × Int) (q2 : Int × Int) (b3 : (Int × Int) × (Int × Int)) (n2840 : List Int) (d2844 : List Int) (i2846 : Int) : Option (((List Int) × (List Int) × Int) ⊕ Bool) :=
  if (decide (i2846 < 2)) then (if (!decide (p1.1 = q2.1)) then ((ix [b3.1.1, b3.2.1] i2846).bind fun x3698 => (ref01_Sign (sb q2.1 p1.1)).bind fun r3699 => (app n2840 [ml (sb x3698 p1.1) r3699]).bind fun x3702 => (ref01_Sign (sb q2.1 p1.1)).bind fun r3705 => (app d2844 [ml (sb q2.1 p1.1) r3705]).bind fun x3708 => ref22_inside_k3 p1 q2 b3 i2846 x3702 x3708) else (ref22_inside_k3 p1 q2 b3 i2846 n2840 d2844)) else (Option.map Sum.inr (ref22_inside_l4 p1 q2 b3 n2840 d2844 0))
noncomputable def ref22_inside_l1 (p1 : Int × Int) (q2 : Int × Int) (b3 : (Int × Int) × (Int × Int)) (s : (List Int) × (List Int) × Int) : Option (Bool) := loopO (fun s => ref22_inside_b1 p1 q2 b3 s.1 s.2.1 s.2.2) s
noncomputable def ref22_inside (p1 : Int × Int) (q2 : Int × Int) (b3 : (Int × Int) × (Int × Int)) : Option (Bool) :=
  ref22_inside_l1 p1 q2 b3 ([0, 1], [1, 1], 0)
end Go.Proofs.Ythjcpojcpafbjaa
