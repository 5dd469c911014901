/-
  Chapter 03. Said plainly. No program in sight.
-/
import Derived.Test.YthkmkmkcnljmaaaSp4
import Derived.Test.YthkmkmkcnljmaaaSp5
namespace Go.Proofs.Ythkmkmkcnljmaaa
set_option linter.unusedVariables false
noncomputable def ring_Moved_1 (p1 : Int × Int) (f1 : Int × Int) : Option (Int × Int) :=
  some (ad p1.1 f1.1, ad p1.2 f1.2)
noncomputable def ring_each_Moved_1_b1 (l1 : List (Int × Int)) (turn2_0 : Int × Int) (out112 : List (Int × Int)) (x114 : Int) : Option (((List (Int × Int)) × Int) ⊕ (List (Int × Int))) :=
  if (decide (x114 < (l1.length : Int))) then ((ix l1 x114).bind fun x142 => (ring_Moved_1 x142 turn2_0).bind fun r149 => (ix out112 x114).bind fun x150 => (put out112 x114 r149).bind fun l151 => some (Sum.inl (l151, ad x114 1))) else (Option.map Sum.inr (some out112))
noncomputable def ring_each_Moved_1_l1 (l1 : List (Int × Int)) (turn2_0 : Int × Int) (s : (List (Int × Int)) × Int) : Option (List (Int × Int)) := loopO (fun s => ring_each_Moved_1_b1 l1 turn2_0 s.1 s.2) s
noncomputable def ring_each_Moved_1 (l1 : List (Int × Int)) (turn2_0 : Int × Int) : Option (List (Int × Int)) :=
  (slices_Clone_api_Point_api_Point l1).bind fun r85 => ring_each_Moved_1_l1 l1 turn2_0 (r85, 0)
noncomputable def ring_Moved (l1 : List (Int × Int)) (x2 : Int × Int) : Option (List (Int × Int)) :=
  (ring_each_Moved_1 l1 x2).bind fun r21 => some r21
noncomputable def ring_Scaled_1 (p1 : Int × Int) (f1 : Int) : Option (Int × Int) :=
  some (ml f1 p1.1, ml f1 p1.2)
noncomputable def ring_each_Scaled_1_b1 (l1 : List (Int × Int)) (turn2_0 : Int) (out112 : List (Int × Int)) (x114 : Int) : Option (((List (Int × Int)) × Int) ⊕ (List (Int × Int))) :=
  if (decide (x114 < (l1.length : Int))) then ((ix l1 x114).bind fun x142 => (ring_Scaled_1 x142 turn2_0).bind fun r149 => (ix out112 x114).bind fun x150 => (put out112 x114 r149).bind fun l151 => some (Sum.inl (l151, ad x114 1))) else (Option.map Sum.inr (some out112))
noncomputable def ring_each_Scaled_1_l1 (l1 : List (Int × Int)) (turn2_0 : Int) (s : (List (Int × Int)) × Int) : Option (List (Int × Int)) := loopO (fun s => ring_each_Scaled_1_b1 l1 turn2_0 s.1 s.2) s
noncomputable def ring_each_Scaled_1 (l1 : List (Int × Int)) (turn2_0 : Int) : Option (List (Int × Int)) :=
  (slices_Clone_api_Point_api_Point l1).bind fun r85 => ring_each_Scaled_1_l1 l1 turn2_0 (r85, 0)
noncomputable def ring_Scaled (l1 : List (Int × Int)) (k2 : Int) : Option (List (Int × Int)) :=
  (ring_each_Scaled_1 l1 k2).bind fun r21 => some r21
noncomputable def law03_moved (p1 : Int × Int) (x2 : Int × Int) : Option (Int × Int) :=
  some (ad p1.1 x2.1, ad p1.2 x2.2)
noncomputable def law03_RingMoves_b1 (p2 : Int × Int) (x3 : Int × Int) (b4 : Int × Int) (x5 : Int × Int) (r143 : List (Int × Int)) (x148 : Int) (x157 : List (Int × Int)) (i180 : Int) : Option (Int ⊕ Bool) :=
  if (decide (i180 < (x157.length : Int))) then ((ix x157 i180).bind fun x204 => (ix x157 i180).bind fun x205 => (gd (!(decide (1048576 < (mx x204.1 x205.2)))) (ix x157 i180) (0, 0)).bind fun x206 => (gd (!(decide (1048576 < (mx x204.1 x205.2)))) (ix x157 i180) (0, 0)).bind fun x207 => (some ((decide (1048576 < (mx x204.1 x205.2))) || (decide ((mn x206.1 x207.2) < (-1048576))))).bind fun x208 => if x208 then ((law03_known).bind fun r211 => Option.map Sum.inr (some r211)) else (some (Sum.inl (ad i180 1)))) else (Option.map Sum.inr ((ring_Moved r143 x5).bind fun r214 => (ring_Scaled r143 (ad 2 (IntKind.i64.wrap x148))).bind fun r217 => (some ((!decide ((r214.length : Int) = (r143.length : Int))) || (!decide ((r217.length : Int) = (r143.length : Int))))).bind fun x222 => if x222 then (some false) else ((ring_Winding r143 p2).bind fun r226 => (law03_moved p2 x5).bind fun r228 => (ring_Winding r214 r228).bind fun r229 => (some (ml (ad 2 (IntKind.i64.wrap x148)) p2.1)).bind fun x231 => (some (ml (ad 2 (IntKind.i64.wrap x148)) p2.2)).bind fun x232 => (ring_Winding r217 (x231, x232)).bind fun r233 => (ring_Beside r143 x3 b4).bind fun r235 => (law03_moved x3 x5).bind fun r237 => (law03_moved b4 x5).bind fun r238 => (ring_Beside r214 r237 r238).bind fun r239 => (law03_known).bind fun r241 => (gd r241 (ring_Area r214) 0).bind fun r242 => (gd r241 (ring_Area r143) 0).bind fun r243 => (gd (r241 && (decide (r242 = r243))) (ring_Area r217) 0).bind fun r244 => (some (ml (ad 2 (IntKind.i64.wrap x148)) (ad 2 (IntKind.i64.wrap x148)))).bind fun x245 => (gd (r241 && (decide (r242 = r243))) (ring_Area r143) 0).bind fun r246 => (some ((r241 && (decide (r242 = r243))) && (decide (r244 = (ml x245 r246))))).bind fun x247 => (some ((x247 && (decide (r226.1 = r229.1))) && (decide (r226.1 = r233.1)))).bind fun x248 => (some ((x248 && (r226.2 == r229.2)) && (r226.2 == r233.2))).bind fun x249 => (some ((x249 && (decide (r235.1 = r239.1))) && (r235.2 == r239.2))).bind fun x250 => (gd x250 (ring_Simple r214) false).bind fun r251 => (gd x250 (ring_Simple r143) false).bind fun r252 => (gd (x250 && (r251 == r252)) (ring_Simple r217) false).bind fun r253 => (gd (x250 && (r251 == r252)) (ring_Simple r143) false).bind fun r254 => (some ((x250 && (r251 == r252)) && (r253 == r254))).bind fun x255 => some x255)))
noncomputable def law03_RingMoves_l1 (p2 : Int × Int) (x3 : Int × Int) (b4 : Int × Int) (x5 : Int × Int) (r143 : List (Int × Int)) (x148 : Int) (x157 : List (Int × Int)) (s : Int) : Option (Bool) := loopO (fun s => law03_RingMoves_b1 p2 x3 b4 x5 r143 x148 x157 s) s
noncomputable def law03_RingMoves (l1 : List (Int × Int)) (p2 : Int × Int) (x3 : Int × Int) (b4 : Int × Int) (x5 : Int × Int) (k6 : Int) : Option (Bool) :=
  (law03_Cut l1).bind fun r143 => (rmK (IntKind.u64.wrap k6) 2).bind fun x148 => (app ([] : List (Int × Int)) r143).bind fun x152 => (app x152 [p2, x3, b4, x5]).bind fun x157 => law03_RingMoves_l1 p2 x3 b4 x5 r143 x148 x157 0
end Go.Proofs.Ythkmkmkcnljmaaa
