/-
  Chapter 22. Said plainly. No program in sight.
-/
import Derived.Test.YthjcpojcpafbjaaPre
namespace Go.Proofs.Ythjcpojcpafbjaa
set_option linter.unusedVariables false
noncomputable def law03_Cut (l1 : List (Int × Int)) : Option (List (Int × Int)) :=
  (cut l1 0 (mn (l1.length : Int) 40)).bind fun x17 => some x17
noncomputable def law01_Of (p1 : Int × Int) : Option (Int × Int) :=
  some p1
noncomputable def law01_Ofs_b1 (l1 : List (Int × Int)) (out100 : List (Int × Int)) (i102 : Int) : Option (((List (Int × Int)) × Int) ⊕ (List (Int × Int))) :=
  if (decide (i102 < (l1.length : Int))) then ((ix l1 i102).bind fun x133 => (law01_Of x133).bind fun r134 => (app out100 [r134]).bind fun x137 => some (Sum.inl (x137, ad i102 1))) else (Option.map Sum.inr (some out100))
noncomputable def law01_Ofs_l1 (l1 : List (Int × Int)) (s : (List (Int × Int)) × Int) : Option (List (Int × Int)) := loopO (fun s => law01_Ofs_b1 l1 s.1 s.2) s
noncomputable def law01_Ofs (l1 : List (Int × Int)) : Option (List (Int × Int)) :=
  law01_Ofs_l1 l1 (([] : List (Int × Int)), 0)
noncomputable def lineclip_Join_k2 (x738 : Int) (out1121 : List (List (Int × Int))) : Option (((List (List (Int × Int))) × Int) ⊕ (List (List (Int × Int)))) :=
  some (Sum.inl (out1121, ad x738 1))
noncomputable def lineclip_Join_b1 (parts1 : List (List (Int × Int))) (out735 : List (List (Int × Int))) (x738 : Int) : Option (((List (List (Int × Int))) × Int) ⊕ (List (List (Int × Int)))) :=
  if (decide (x738 < (parts1.length : Int))) then ((ix parts1 x738).bind fun x1127 => if (decide ((x1127.length : Int) = 0)) then (lineclip_Join_k2 x738 out735) else ((gd (decide (0 ≤ (sb (out735.length : Int) 1))) (ix out735 (sb (out735.length : Int) 1)) []).bind fun x1134 => (gd (decide (0 ≤ (sb (out735.length : Int) 1))) (ix out735 (sb (out735.length : Int) 1)) []).bind fun x1136 => (gd (decide (0 ≤ (sb (out735.length : Int) 1))) (ix x1134 (sb (x1136.length : Int) 1)) (0, 0)).bind fun x1138 => (gd (decide (0 ≤ (sb (out735.length : Int) 1))) (ix x1127 0) (0, 0)).bind fun x1139 => (some ((decide (0 ≤ (sb (out735.length : Int) 1))) && (decide (x1138 = x1139)))).bind fun x1140 => if x1140 then ((ix out735 (sb (out735.length : Int) 1)).bind fun x1147 => (cut x1127 1 (x1127.length : Int)).bind fun x1149 => (app x1147 x1149).bind fun x1151 => (ix out735 (sb (out735.length : Int) 1)).bind fun x1154 => (put out735 (sb (out735.length : Int) 1) x1151).bind fun l1155 => lineclip_Join_k2 x738 l1155) else ((app ([] : List (Int × Int)) x1127).bind fun x1166 => (app out735 [x1166]).bind fun x1171 => lineclip_Join_k2 x738 x1171))) else (Option.map Sum.inr (some out735))
noncomputable def lineclip_Join_l1 (parts1 : List (List (Int × Int))) (s : (List (List (Int × Int))) × Int) : Option (List (List (Int × Int))) := loopO (fun s => lineclip_Join_b1 parts1 s.1 s.2) s
noncomputable def lineclip_Join (parts1 : List (List (Int × Int))) : Option (List (List (Int × Int))) :=
  lineclip_Join_l1 parts1 (([] : List (List (Int × Int))), 0)
noncomputable def exact_within (n1 : Int) (least2 : Int) (greatest3 : Int) : Option (Bool) :=
  (some ((decide (least2 ≤ n1)) && (decide (n1 ≤ greatest3)))).bind fun x15 => some x15
noncomputable def exact_Right_b1 (l1 : List (Int × Int)) (x90 : Int) : Option (Int ⊕ Bool) :=
  if (decide (x90 < (l1.length : Int))) then ((ix l1 x90).bind fun x115 => (exact_within x115.1 (-16777216) 16777216).bind fun r120 => (gd (!(!r120)) (exact_within x115.2 (-16777216) 16777216) false).bind fun r121 => if ((!r120) || (!r121)) then (Option.map Sum.inr (some false)) else (some (Sum.inl (ad x90 1)))) else (Option.map Sum.inr (some true))
noncomputable def exact_Right_l1 (l1 : List (Int × Int)) (s : Int) : Option (Bool) := loopO (fun s => exact_Right_b1 l1 s) s
noncomputable def exact_Right (l1 : List (Int × Int)) : Option (Bool) :=
  exact_Right_l1 l1 0
noncomputable def rows_Right (b1 : (Int × Int) × (Int × Int)) : Option (Bool) :=
  (exact_Right [b1.1, b1.2]).bind fun r24 => (some ((r24 && (decide (b1.1.1 ≤ b1.2.1))) && (decide (b1.1.2 ≤ b1.2.2)))).bind fun x25 => some x25
noncomputable def lineclip_within (p1 : Int × Int) (b2 : (Int × Int) × (Int × Int)) : Option (Bool) :=
  (some ((decide (b2.1.1 ≤ p1.1)) && (decide (p1.1 ≤ b2.2.1)))).bind fun x24 => (some ((x24 && (decide (b2.1.2 ≤ p1.2))) && (decide (p1.2 ≤ b2.2.2)))).bind fun x25 => some x25
noncomputable def lineclip_side (p1 : Int) (q2 : Int) (low3 : Int) (high4 : Int) : Option (Bool) :=
  (some ((decide (p1 = low3)) || (decide (p1 = high4)))).bind fun x15 => some ((decide (p1 = q2)) && x15)
end Go.Proofs.Ythjcpojcpafbjaa
