/-
  Chapter 22. Said plainly. No program in sight.
-/
import Derived.Test.YthjcpojcpafbjaaSp2
import Derived.Test.YthjcpojcpafbjaaSp3
import Derived.Test.YthjcpojcpafbjaaSp4
import Derived.Test.YthjcpojcpafbjaaSp7
namespace Go.Proofs.Ythjcpojcpafbjaa
set_option linter.unusedVariables false
noncomputable def exact_Floor_k1 (q66 : Int) : Option (Int × Bool) :=
  some (q66, true)
noncomputable def exact_Floor (n1 : Int) (d2 : Int) : Option (Int × Bool) :=
  (exact_within d2 1 1152921504606846976).bind fun r73 => (gd (!(!r73)) (exact_within n1 (-1152921504606846976) 1152921504606846976) false).bind fun r74 => if ((!r73) || (!r74)) then (some (0, false)) else ((quK .i64 n1 d2).bind fun x78 => (rmK n1 d2).bind fun x81 => if (decide (0 ≤ x81)) then (exact_Floor_k1 x78) else (some (sb x78 1, true)))
noncomputable def exact_Round_k1 (q42 : Int) : Option (Int × Bool) :=
  some (q42, true)
noncomputable def exact_Round (n1 : Int) (d2 : Int) : Option (Int × Bool) :=
  (exact_Floor n1 d2).bind fun r31 => if (!r31.2) then (some (0, false)) else (if (decide ((sb d2 (sb n1 (ml r31.1 d2))) ≤ (sb n1 (ml r31.1 d2)))) then (exact_Round_k1 (ad r31.1 1)) else (exact_Round_k1 r31.1))
noncomputable def seg_AtX_k1 (c3 : Int) (x60 : Int × Int) (b62 : Int × Int) : Option (Int × Bool) :=
  (exact_Right [x60, b62]).bind fun r68 => (some (((!r68) || (decide (c3 ≤ x60.1))) || (decide (b62.1 ≤ c3)))).bind fun x69 => if x69 then (some (0, false)) else ((some (ad (ml x60.2 (sb b62.1 x60.1)) (ml (sb b62.2 x60.2) (sb c3 x60.1)))).bind fun x74 => (exact_Round x74 (sb b62.1 x60.1)).bind fun r75 => some (r75.1, r75.2))
noncomputable def seg_AtX (x1 : Int × Int) (b2 : Int × Int) (c3 : Int) : Option (Int × Bool) :=
  if (decide (b2.1 < x1.1)) then (seg_AtX_k1 c3 b2 x1) else (seg_AtX_k1 c3 x1 b2)
noncomputable def seg_flip (p1 : Int × Int) : Option (Int × Int) :=
  some (p1.2, p1.1)
noncomputable def seg_AtY (x1 : Int × Int) (b2 : Int × Int) (c3 : Int) : Option (Int × Bool) :=
  (seg_flip x1).bind fun r25 => (seg_flip b2).bind fun r26 => (seg_AtX r25 r26 c3).bind fun r27 => some (r27.1, r27.2)
noncomputable def law22_LineclipMeets_k2 (i609 : Int) : Option (Int ⊕ Bool) :=
  some (Sum.inl (ad i609 1))
noncomputable def law22_LineclipMeets_b1 (b2 : (Int × Int) × (Int × Int)) (r455 : List (Int × Int)) (i609 : Int) : Option (Int ⊕ Bool) :=
  if (decide (i609 < (r455.length : Int))) then ((ix r455 (sb i609 1)).bind fun x859 => (ix r455 i609).bind fun x860 => (seg_AtX x859 x860 b2.1.1).bind fun r868 => (seg_AtX x859 x860 b2.2.1).bind fun r870 => (seg_AtY x859 x860 b2.1.2).bind fun r872 => (seg_AtY x859 x860 b2.2.2).bind fun r874 => (some (((r868.2 || r870.2) || r872.2) || r874.2)).bind fun x877 => (gd (!x877) (law01_Of x859) (0, 0)).bind fun r878 => (gd (!x877) (ref01_May r878) false).bind fun r879 => (gd (!(x877 || (!r879))) (law01_Of x860) (0, 0)).bind fun r880 => (gd (!(x877 || (!r879))) (ref01_May r880) false).bind fun r881 => if ((x877 || (!r879)) || (!r881)) then (law22_LineclipMeets_k2 i609) else ((lineclip_Meets [x859, x860] b2).bind fun r886 => (lineclip_Shown x859 x860 b2).bind fun r887 => if (!(r886 == r887)) then (Option.map Sum.inr (some false)) else (law22_LineclipMeets_k2 i609))) else (Option.map Sum.inr ((law22_known).bind fun r891 => some r891))
noncomputable def law22_LineclipMeets_l1 (b2 : (Int × Int) × (Int × Int)) (r455 : List (Int × Int)) (s : Int) : Option (Bool) := loopO (fun s => law22_LineclipMeets_b1 b2 r455 s) s
noncomputable def law22_LineclipMeets (l1 : List (Int × Int)) (b2 : (Int × Int) × (Int × Int)) : Option (Bool) :=
  (law03_Cut l1).bind fun r455 => (rows_Right b2).bind fun r461 => if (!r461) then ((law22_known).bind fun r464 => some r464) else (law22_LineclipMeets_l1 b2 r455 1)
end Go.Proofs.Ythjcpojcpafbjaa
