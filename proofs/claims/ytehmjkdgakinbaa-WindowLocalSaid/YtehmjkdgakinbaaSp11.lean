/-
  Chapter 20. Said plainly. No program in sight.
-/
import Derived.Test.YtehmjkdgakinbaaSp2
import Derived.Test.YtehmjkdgakinbaaSp3
import Derived.Test.YtehmjkdgakinbaaSp4
namespace Go.Proofs.Ytehmjkdgakinbaa
set_option linter.unusedVariables false
noncomputable def law03_Cut (l1 : List (Int × Int)) : Option (List (Int × Int)) :=
  (cut l1 0 (mn (l1.length : Int) 40)).bind fun x17 => some x17
noncomputable def slices_Clone_api_Point_api_Point (s1 : List (Int × Int)) : Option (List (Int × Int)) :=
  (app ([] : List (Int × Int)) s1).bind fun x28 => some x28
noncomputable def window_moved_b1 (x2 : Int) (y3 : Int) (r79 : List (Int × Int)) (out104 : List (Int × Int)) (x106 : Int) : Option (((List (Int × Int)) × Int) ⊕ (List (Int × Int))) :=
  if (decide (x106 < (r79.length : Int))) then ((ix out104 x106).bind fun x136 => (ix out104 x106).bind fun x137 => (ix out104 x106).bind fun x138 => (put out104 x106 (ad x136.1 x2, ad x137.2 y3)).bind fun l139 => some (Sum.inl (l139, ad x106 1))) else (Option.map Sum.inr (some out104))
noncomputable def window_moved_l1 (x2 : Int) (y3 : Int) (r79 : List (Int × Int)) (s : (List (Int × Int)) × Int) : Option (List (Int × Int)) := loopO (fun s => window_moved_b1 x2 y3 r79 s.1 s.2) s
noncomputable def window_moved (l1 : List (Int × Int)) (x2 : Int) (y3 : Int) : Option (List (Int × Int)) :=
  (slices_Clone_api_Point_api_Point l1).bind fun r79 => window_moved_l1 x2 y3 r79 (r79, 0)
noncomputable def window_Local (t1 : Int × Int × Int) (l2 : List (Int × Int)) : Option (List (Int × Int)) :=
  (window_Right t1).bind fun r27 => if (!r27) then (some ([] : List (Int × Int))) else ((window_moved l2 (ml (-4096) t1.2.1) (ml (-4096) t1.2.2)).bind fun r31 => some r31)
noncomputable def window_World (t1 : Int × Int × Int) (l2 : List (Int × Int)) : Option (List (Int × Int)) :=
  (window_Right t1).bind fun r27 => if (!r27) then (some ([] : List (Int × Int))) else ((window_moved l2 (ml 4096 t1.2.1) (ml 4096 t1.2.2)).bind fun r31 => some r31)
noncomputable def law01_Ofs_b1 (l1 : List (Int × Int)) (out100 : List (Int × Int)) (i102 : Int) : Option (((List (Int × Int)) × Int) ⊕ (List (Int × Int))) :=
  if (decide (i102 < (l1.length : Int))) then ((ix l1 i102).bind fun x133 => (law01_Of x133).bind fun r134 => (app out100 [r134]).bind fun x137 => some (Sum.inl (x137, ad i102 1))) else (Option.map Sum.inr (some out100))
noncomputable def law01_Ofs_l1 (l1 : List (Int × Int)) (s : (List (Int × Int)) × Int) : Option (List (Int × Int)) := loopO (fun s => law01_Ofs_b1 l1 s.1 s.2) s
noncomputable def law01_Ofs (l1 : List (Int × Int)) : Option (List (Int × Int)) :=
  law01_Ofs_l1 l1 (([] : List (Int × Int)), 0)
noncomputable def ref03_Same_b1 (x1 : List (Int × Int)) (b2 : List (Int × Int)) (i78 : Int) : Option (Int ⊕ Bool) :=
  if (decide (i78 < (x1.length : Int))) then ((ix x1 i78).bind fun x98 => (ix b2 i78).bind fun x99 => if (!decide (x98 = x99)) then (Option.map Sum.inr (some false)) else (some (Sum.inl (ad i78 1)))) else (Option.map Sum.inr (some true))
noncomputable def ref03_Same_l1 (x1 : List (Int × Int)) (b2 : List (Int × Int)) (s : Int) : Option (Bool) := loopO (fun s => ref03_Same_b1 x1 b2 s) s
noncomputable def ref03_Same (x1 : List (Int × Int)) (b2 : List (Int × Int)) : Option (Bool) :=
  if (!decide ((x1.length : Int) = (b2.length : Int))) then (some false) else (ref03_Same_l1 x1 b2 0)
noncomputable def law03_Same (l1 : List (Int × Int)) (x2 : List (Int × Int)) : Option (Bool) :=
  (law01_Ofs l1).bind fun r18 => (ref03_Same r18 x2).bind fun r21 => some r21
noncomputable def law20_WindowLocal_b1 (t1 : Int × Int × Int) (r141 : List (Int × Int)) (r146 : List (Int × Int)) (r149 : List (Int × Int)) (r161 : ((Int × Int) × (Int × Int)) × Bool) (r168 : List (Int × Int)) (i198 : Int) : Option (Int ⊕ Bool) :=
  (some ((decide (i198 < (r141.length : Int))) && (decide ((r146.length : Int) = (r141.length : Int))))).bind fun x225 => (some (x225 && (decide ((r149.length : Int) = (r141.length : Int))))).bind fun x226 => if x226 then ((ix r146 i198).bind fun x231 => (ix r141 i198).bind fun x232 => (gd (!(!decide (x231.1 = (sb x232.1 (ml 4096 t1.2.1))))) (ix r146 i198) (0, 0)).bind fun x233 => (gd (!(!decide (x231.1 = (sb x232.1 (ml 4096 t1.2.1))))) (ix r141 i198) (0, 0)).bind fun x234 => (some ((!decide (x231.1 = (sb x232.1 (ml 4096 t1.2.1)))) || (!decide (x233.2 = (sb x234.2 (ml 4096 t1.2.2)))))).bind fun x235 => (gd (!x235) (ix r149 i198) (0, 0)).bind fun x236 => (gd (!x235) (ix r141 i198) (0, 0)).bind fun x237 => (some (x235 || (!decide (x236.1 = (ad x237.1 (ml 4096 t1.2.1)))))).bind fun x238 => (gd (!x238) (ix r149 i198) (0, 0)).bind fun x239 => (gd (!x238) (ix r141 i198) (0, 0)).bind fun x240 => (some (x238 || (!decide (x239.2 = (ad x240.2 (ml 4096 t1.2.2)))))).bind fun x241 => if x241 then (Option.map Sum.inr (some false)) else (some (Sum.inl (ad i198 1)))) else (Option.map Sum.inr ((law20_known).bind fun r246 => (some ((r246 && r161.2) && (decide ((r168.length : Int) = 1)))).bind fun x247 => (gd x247 (ix r168 0) (0, 0)).bind fun x248 => (gd (x247 && (decide (x248 = (0, 0)))) (window_World t1 r146) []).bind fun r249 => (gd (x247 && (decide (x248 = (0, 0)))) (law01_Ofs r141) []).bind fun r252 => (gd (x247 && (decide (x248 = (0, 0)))) (law03_Same r249 r252) false).bind fun r255 => (some ((x247 && (decide (x248 = (0, 0)))) && r255)).bind fun x256 => (gd x256 (window_Local t1 r149) []).bind fun r257 => (gd x256 (law01_Ofs r141) []).bind fun r260 => (gd x256 (law03_Same r257 r260) false).bind fun r263 => some (x256 && r263)))
noncomputable def law20_WindowLocal_l1 (t1 : Int × Int × Int) (r141 : List (Int × Int)) (r146 : List (Int × Int)) (r149 : List (Int × Int)) (r161 : ((Int × Int) × (Int × Int)) × Bool) (r168 : List (Int × Int)) (s : Int) : Option (Bool) := loopO (fun s => law20_WindowLocal_b1 t1 r141 r146 r149 r161 r168 s) s
noncomputable def law20_WindowLocal (t1 : Int × Int × Int) (l2 : List (Int × Int)) : Option (Bool) :=
  (law03_Cut l2).bind fun r141 => (window_Local t1 r141).bind fun r146 => (window_World t1 r141).bind fun r149 => (window_Right t1).bind fun r154 => if (!r154) then ((law20_known).bind fun r157 => (some (r157 && (decide ((r146.length : Int) = 0)))).bind fun x158 => (some (x158 && (decide ((r149.length : Int) = 0)))).bind fun x159 => some x159) else ((window_Place t1).bind fun r161 => (window_Local t1 [r161.1.1]).bind fun r168 => law20_WindowLocal_l1 t1 r141 r146 r149 r161 r168 0)
end Go.Proofs.Ytehmjkdgakinbaa
