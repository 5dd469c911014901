/-
  Chapter 22. Said plainly. No program in sight.
-/
import Derived.Test.YthjcpojcpafbjaaSp2
import Derived.Test.YthjcpojcpafbjaaSp3
import Derived.Test.YthjcpojcpafbjaaSp5
namespace Go.Proofs.Ythjcpojcpafbjaa
set_option linter.unusedVariables false
noncomputable def lineclip_Join_k2 (x738 : Int) (out1121 : List (List (Int × Int))) : Option (((List (List (Int × Int))) × Int) ⊕ (List (List (Int × Int)))) :=
  some (Sum.inl (out1121, ad x738 1))
noncomputable def lineclip_Join_b1 (parts1 : List (List (Int × Int))) (out735 : List (List (Int × Int))) (x738 : Int) : Option (((List (List (Int × Int))) × Int) ⊕ (List (List (Int × Int)))) :=
  if (decide (x738 < (parts1.length : Int))) then ((ix parts1 x738).bind fun x1127 => if (decide ((x1127.length : Int) = 0)) then (lineclip_Join_k2 x738 out735) else ((gd (decide (0 ≤ (sb (out735.length : Int) 1))) (ix out735 (sb (out735.length : Int) 1)) []).bind fun x1134 => (gd (decide (0 ≤ (sb (out735.length : Int) 1))) (ix out735 (sb (out735.length : Int) 1)) []).bind fun x1136 => (gd (decide (0 ≤ (sb (out735.length : Int) 1))) (ix x1134 (sb (x1136.length : Int) 1)) (0, 0)).bind fun x1138 => (gd (decide (0 ≤ (sb (out735.length : Int) 1))) (ix x1127 0) (0, 0)).bind fun x1139 => (some ((decide (0 ≤ (sb (out735.length : Int) 1))) && (decide (x1138 = x1139)))).bind fun x1140 => if x1140 then ((ix out735 (sb (out735.length : Int) 1)).bind fun x1147 => (cut x1127 1 (x1127.length : Int)).bind fun x1149 => (app x1147 x1149).bind fun x1151 => (ix out735 (sb (out735.length : Int) 1)).bind fun x1154 => (put out735 (sb (out735.length : Int) 1) x1151).bind fun l1155 => lineclip_Join_k2 x738 l1155) else ((app ([] : List (Int × Int)) x1127).bind fun x1166 => (app out735 [x1166]).bind fun x1171 => lineclip_Join_k2 x738 x1171))) else (Option.map Sum.inr (some out735))
noncomputable def lineclip_Join_l1 (parts1 : List (List (Int × Int))) (s : (List (List (Int × Int))) × Int) : Option (List (List (Int × Int))) := loopO (fun s => lineclip_Join_b1 parts1 s.1 s.2) s
noncomputable def lineclip_Join (parts1 : List (List (Int × Int))) : Option (List (List (Int × Int))) :=
  lineclip_Join_l1 parts1 (([] : List (List (Int × Int))), 0)
noncomputable def ref22_Join_k2 (i1656 : Int) (out2184 : List (List (Int × Int))) (now2189 : List (Int × Int)) : Option (((List (List (Int × Int))) × (List (Int × Int)) × Int) ⊕ (List (List (Int × Int)))) :=
  some (Sum.inl (out2184, now2189, ad i1656 1))
noncomputable def ref22_Join_k3 (l1 : List (List (Int × Int))) (i1656 : Int) (out2236 : List (List (Int × Int))) : Option (((List (List (Int × Int))) × (List (Int × Int)) × Int) ⊕ (List (List (Int × Int)))) :=
  (ix l1 i1656).bind fun x2243 => (app ([] : List (Int × Int)) x2243).bind fun x2245 => ref22_Join_k2 i1656 out2236 x2245
noncomputable def ref22_Join_k4 (out2278 : List (List (Int × Int))) : Option (List (List (Int × Int))) :=
  some out2278
noncomputable def ref22_Join_b1 (l1 : List (List (Int × Int))) (out1649 : List (List (Int × Int))) (now1654 : List (Int × Int)) (i1656 : Int) : Option (((List (List (Int × Int))) × (List (Int × Int)) × Int) ⊕ (List (List (Int × Int)))) :=
  if (decide (i1656 < (l1.length : Int))) then ((ix l1 i1656).bind fun x2195 => if (decide ((x2195.length : Int) = 0)) then (ref22_Join_k2 i1656 out1649 now1654) else ((gd (decide (0 < (now1654.length : Int))) (ix now1654 (sb (now1654.length : Int) 1)) (0, 0)).bind fun x2200 => (gd (decide (0 < (now1654.length : Int))) (ix l1 i1656) []).bind fun x2201 => (gd (decide (0 < (now1654.length : Int))) (ix x2201 0) (0, 0)).bind fun x2203 => (some ((decide (0 < (now1654.length : Int))) && (decide (x2200 = x2203)))).bind fun x2204 => if x2204 then ((app ([] : List (Int × Int)) now1654).bind fun x2209 => (ix l1 i1656).bind fun x2212 => (cut x2212 1 (x2212.length : Int)).bind fun x2214 => (app x2209 x2214).bind fun x2216 => ref22_Join_k2 i1656 out1649 x2216) else (if (decide (0 < (now1654.length : Int))) then ((app out1649 [now1654]).bind fun x2257 => ref22_Join_k3 l1 i1656 x2257) else (ref22_Join_k3 l1 i1656 out1649)))) else (Option.map Sum.inr (if (decide (0 < (now1654.length : Int))) then ((app out1649 [now1654]).bind fun x2292 => ref22_Join_k4 x2292) else (ref22_Join_k4 out1649)))
noncomputable def ref22_Join_l1 (l1 : List (List (Int × Int))) (s : (List (List (Int × Int))) × (List (Int × Int)) × Int) : Option (List (List (Int × Int))) := loopO (fun s => ref22_Join_b1 l1 s.1 s.2.1 s.2.2) s
noncomputable def ref22_Join (l1 : List (List (Int × Int))) : Option (List (List (Int × Int))) :=
  ref22_Join_l1 l1 (([] : List (List (Int × Int))), ([] : List (Int × Int)), 0)
noncomputable def law22_LineclipJoins_b1 (l1 : List (List (Int × Int))) (some246 : List (List (Int × Int))) (x251 : List (List (Int × Int))) (i254 : Int) : Option (((List (List (Int × Int))) × (List (List (Int × Int))) × Int) ⊕ Bool) :=
  (some ((decide (i254 < (l1.length : Int))) && (decide (i254 < 10)))).bind fun x313 => if x313 then ((ix l1 i254).bind fun x326 => (law03_Cut x326).bind fun r328 => (app some246 [r328]).bind fun x334 => (ix l1 i254).bind fun x349 => (law03_Cut x349).bind fun r351 => (law01_Ofs r351).bind fun r355 => (app x251 [r355]).bind fun x360 => some (Sum.inl (x334, x360, ad i254 1))) else (Option.map Sum.inr ((lineclip_Join some246).bind fun r366 => (law22_known).bind fun r371 => (gd r371 (ref22_Join x251) []).bind fun r372 => (gd r371 (law22_Same r366 r372) false).bind fun r376 => (gd (r371 && r376) (lineclip_Join r366) []).bind fun r377 => (gd (r371 && r376) (ref22_Join x251) []).bind fun r381 => (gd (r371 && r376) (law22_Same r377 r381) false).bind fun r385 => some ((r371 && r376) && r385)))
noncomputable def law22_LineclipJoins_l1 (l1 : List (List (Int × Int))) (s : (List (List (Int × Int))) × (List (List (Int × Int))) × Int) : Option (Bool) := loopO (fun s => law22_LineclipJoins_b1 l1 s.1 s.2.1 s.2.2) s
noncomputable def law22_LineclipJoins (l1 : List (List (Int × Int))) : Option (Bool) :=
  law22_LineclipJoins_l1 l1 (([] : List (List (Int × Int))), ([] : List (List (Int × Int))), 0)
end Go.Proofs.Ythjcpojcpafbjaa
