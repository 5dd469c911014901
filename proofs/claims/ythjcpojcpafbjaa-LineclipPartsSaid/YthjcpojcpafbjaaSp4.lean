/-
  Chapter 22. Said plainly. No program in sight.
-/
import Derived.Test.YthjcpojcpafbjaaSp2
namespace Go.Proofs.Ythjcpojcpafbjaa
set_option linter.unusedVariables false
noncomputable def lineclip_less (x1 : Int × Int) (b2 : Int × Int) : Option (Bool) :=
  some (decide ((ml x1.1 b2.2) < (ml b2.1 x1.2)))
noncomputable def lineclip_inside_k2 (x1087 : Int) (first1578 : Int × Int) (last1580 : Int × Int) : Option (((Int × Int) × (Int × Int) × Int) ⊕ Bool) :=
  some (Sum.inl (first1578, last1580, ad x1087 1))
noncomputable def lineclip_inside_b1 (p1 : Int × Int) (q2 : Int × Int) (b3 : (Int × Int) × (Int × Int)) (first1084 : Int × Int) (last1086 : Int × Int) (x1087 : Int) : Option (((Int × Int) × (Int × Int) × Int) ⊕ Bool) :=
  if (decide (x1087 < 4)) then ((ix [(sb p1.1 b3.1.1, sb q2.1 p1.1), (sb b3.2.1 p1.1, sb p1.1 q2.1), (sb p1.2 b3.1.2, sb q2.2 p1.2), (sb b3.2.2 p1.2, sb p1.2 q2.2)] x1087).bind fun x1545 => if (decide (x1545.2 = 0)) then (if (decide (x1545.1 ≤ 0)) then (Option.map Sum.inr (some false)) else (lineclip_inside_k2 x1087 first1084 last1086)) else (if (decide (0 < x1545.2)) then ((lineclip_less first1084 (ng x1545.1, x1545.2)).bind fun r1595 => if r1595 then (lineclip_inside_k2 x1087 (ng x1545.1, x1545.2) last1086) else (lineclip_inside_k2 x1087 first1084 last1086)) else ((lineclip_less (x1545.1, ng x1545.2) last1086).bind fun r1604 => if r1604 then (lineclip_inside_k2 x1087 first1084 (x1545.1, ng x1545.2)) else (lineclip_inside_k2 x1087 first1084 last1086)))) else (Option.map Sum.inr ((lineclip_less first1084 last1086).bind fun r1609 => some r1609))
noncomputable def lineclip_inside_l1 (p1 : Int × Int) (q2 : Int × Int) (b3 : (Int × Int) × (Int × Int)) (s : (Int × Int) × (Int × Int) × Int) : Option (Bool) := loopO (fun s => lineclip_inside_b1 p1 q2 b3 s.1 s.2.1 s.2.2) s
noncomputable def lineclip_inside (p1 : Int × Int) (q2 : Int × Int) (b3 : (Int × Int) × (Int × Int)) : Option (Bool) :=
  lineclip_inside_l1 p1 q2 b3 ((0, 1), (1, 1), 0)
noncomputable def lineclip_Meets_b1 (l1 : List (Int × Int)) (b2 : (Int × Int) × (Int × Int)) (i114 : Int) : Option (Int ⊕ Bool) :=
  if (decide (i114 < (l1.length : Int))) then ((ix l1 (sb i114 1)).bind fun x144 => (ix l1 i114).bind fun x145 => (gd (!decide (x144 = x145)) (ix l1 (sb i114 1)) (0, 0)).bind fun x146 => (gd (!decide (x144 = x145)) (ix l1 i114) (0, 0)).bind fun x147 => (gd (!decide (x144 = x145)) (exact_Right [x146, x147]) false).bind fun r150 => (gd ((!decide (x144 = x145)) && r150) (rows_Right b2) false).bind fun r151 => (some (((!decide (x144 = x145)) && r150) && r151)).bind fun x152 => (gd x152 (ix l1 (sb i114 1)) (0, 0)).bind fun x153 => (gd x152 (ix l1 i114) (0, 0)).bind fun x154 => (gd x152 (lineclip_inside x153 x154 b2) false).bind fun r155 => if (x152 && r155) then (Option.map Sum.inr (some true)) else (some (Sum.inl (ad i114 1)))) else (Option.map Sum.inr (some false))
noncomputable def lineclip_Meets_l1 (l1 : List (Int × Int)) (b2 : (Int × Int) × (Int × Int)) (s : Int) : Option (Bool) := loopO (fun s => lineclip_Meets_b1 l1 b2 s) s
noncomputable def lineclip_Meets (l1 : List (Int × Int)) (b2 : (Int × Int) × (Int × Int)) : Option (Bool) :=
  lineclip_Meets_l1 l1 b2 1
end Go.Proofs.Ythjcpojcpafbjaa
