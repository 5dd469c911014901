import Derived.Test.YthkmkmkcnljmaaaSp2
namespace Go.Proofs.Ythkmkmkcnljmaaa
set_option linter.unusedVariables false
noncomputable def law03_RingOnce_b2 (r137 : List (Int × Int)) (way154 : Int) (i195 : Int) : Option (Int ⊕ Bool) :=
  if (decide (i195 < (r137.length : Int))) then ((ix r137 i195).bind fun x230 => (rmK (ad i195 1) (r137.length : Int)).bind fun x231 => (ix r137 x231).bind fun x232 => (ring_Beside r137 x230 x232).bind fun r240 => (ring_Beside r137 x232 x230).bind fun r242 => (some (((!r240.2) || (!r242.2)) || (!decide ((ad r240.1 r242.1) = way154)))).bind fun x244 => (some ((!decide (r240.1 = 0)) && (!decide (r242.1 = 0)))).bind fun x245 => (some ((decide (way154 = 1)) && (!decide (r240.1 = 1)))).bind fun x246 => if ((x244 || x245) || x246) then (Option.map Sum.inr (some false)) else (some (Sum.inl (ad i195 1)))) else (Option.map Sum.inr ((law03_known).bind fun r251 => some r251))
noncomputable def law03_RingOnce_l2 (r137 : List (Int × Int)) (way154 : Int) (s : Int) : Option (Bool) := loopO (fun s => law03_RingOnce_b2 r137 way154 s) s
noncomputable def law03_RingOnce_k1 (p2 : Int × Int) (r137 : List (Int × Int)) (way154 : Int) : Option (Bool) :=
  (ring_Winding r137 p2).bind fun r157 => (ring_Area r137).bind fun r160 => (some ((r157.2 && (!decide (r157.1 = 0))) && (!decide (r157.1 = way154)))).bind fun x161 => if ((decide (r160 = 0)) || x161) then (some false) else (law03_RingOnce_l2 r137 way154 0)
noncomputable def law03_RingOnce (l1 : List (Int × Int)) (p2 : Int × Int) : Option (Bool) :=
  (law03_Cut l1).bind fun r137 => (ring_Simple r137).bind fun r143 => if (!r143) then ((law03_known).bind fun r146 => some r146) else ((ring_Area r137).bind fun r253 => if (decide (r253 < 0)) then (law03_RingOnce_k1 p2 r137 (-1)) else (law03_RingOnce_k1 p2 r137 1))
end Go.Proofs.Ythkmkmkcnljmaaa
