/-
  Chapter 21. Said plainly. No program in sight.
-/
import Derived.Test.YtopnbammdeimcaaPre
namespace Go.Proofs.Ytopnbammdeimcaa
set_option linter.unusedVariables false
noncomputable def law03_Cut (l1 : List (Int × Int)) : Option (List (Int × Int)) :=
  (cut l1 0 (mn (l1.length : Int) 40)).bind fun x17 => some x17
noncomputable def exact_within (n1 : Int) (least2 : Int) (greatest3 : Int) : Option (Bool) :=
  (some ((decide (least2 ≤ n1)) && (decide (n1 ≤ greatest3)))).bind fun x15 => some x15
noncomputable def exact_Right_b1 (l1 : List (Int × Int)) (x90 : Int) : Option (Int ⊕ Bool) :=
  if (decide (x90 < (l1.length : Int))) then ((ix l1 x90).bind fun x115 => (exact_within x115.1 (-16777216) 16777216).bind fun r120 => (gd (!(!r120)) (exact_within x115.2 (-16777216) 16777216) false).bind fun r121 => if ((!r120) || (!r121)) then (Option.map Sum.inr (some false)) else (some (Sum.inl (ad x90 1)))) else (Option.map Sum.inr (some true))
noncomputable def exact_Right_l1 (l1 : List (Int × Int)) (s : Int) : Option (Bool) := loopO (fun s => exact_Right_b1 l1 s) s
noncomputable def exact_Right (l1 : List (Int × Int)) : Option (Bool) :=
  exact_Right_l1 l1 0
noncomputable def exact_Floor_k1 (q66 : Int) : Option (Int × Bool) :=
  some (q66, true)
noncomputable def exact_Floor (n1 : Int) (d2 : Int) : Option (Int × Bool) :=
  (exact_within d2 1 1152921504606846976).bind fun r73 => (gd (!(!r73)) (exact_within n1 (-1152921504606846976) 1152921504606846976) false).bind fun r74 => if ((!r73) || (!r74)) then (some (0, false)) else ((quK .i64 n1 d2).bind fun x78 => (rmK n1 d2).bind fun x81 => if (decide (0 ≤ x81)) then (exact_Floor_k1 x78) else (some (sb x78 1, true)))
noncomputable def exact_Round_k1 (q42 : Int) : Option (Int × Bool) :=
  some (q42, true)
noncomputable def exact_Round (n1 : Int) (d2 : Int) : Option (Int × Bool) :=
  (exact_Floor n1 d2).bind fun r31 => if (!r31.2) then (some (0, false)) else (if (decide ((sb d2 (sb n1 (ml r31.1 d2))) ≤ (sb n1 (ml r31.1 d2)))) then (exact_Round_k1 (ad r31.1 1)) else (exact_Round_k1 r31.1))
noncomputable def seg_AtX_k1 (c3 : Int) (x60 : Int × Int) (b62 : Int × Int) : Option (Int × Bool) :=
  (exact_Right [x60, b62]).bind fun r68 => (some (((!r68) || (decide (c3 ≤ x60.1))) || (decide (b62.1 ≤ c3)))).bind fun x69 => if x69 then (some (0, false)) else ((some (ad (ml x60.2 (sb b62.1 x60.1)) (ml (sb b62.2 x60.2) (sb c3 x60.1)))).bind fun x74 => (exact_Round x74 (sb b62.1 x60.1)).bind fun r75 => some (r75.1, r75.2))
noncomputable def seg_AtX (x1 : Int × Int) (b2 : Int × Int) (c3 : Int) : Option (Int × Bool) :=
  if (decide (b2.1 < x1.1)) then (seg_AtX_k1 c3 b2 x1) else (seg_AtX_k1 c3 x1 b2)
noncomputable def seg_flip (p1 : Int × Int) : Option (Int × Int) :=
  some (p1.2, p1.1)
noncomputable def seg_AtY (x1 : Int × Int) (b2 : Int × Int) (c3 : Int) : Option (Int × Bool) :=
  (seg_flip x1).bind fun r25 => (seg_flip b2).bind fun r26 => (seg_AtX r25 r26 c3).bind fun r27 => some (r27.1, r27.2)
noncomputable def polyclip_cut (x1 : Int × Int) (b2 : Int × Int) (c3 : Int) (y4 : Bool) : Option ((Int × Int) × Bool) :=
  if y4 then ((seg_AtY x1 b2 c3).bind fun r39 => some ((r39.1, c3), r39.2)) else ((seg_AtX x1 b2 c3).bind fun r43 => some ((c3, r43.1), r43.2))
end Go.Proofs.Ytopnbammdeimcaa
