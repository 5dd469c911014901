/-
  Chapter 21. Said plainly. No program in sight.
-/
import Derived.Test.YtopnbammdeimcaaSp4
namespace Go.Proofs.Ytopnbammdeimcaa
set_option linter.unusedVariables false
noncomputable def law21_PolyclipHalves_k2 (c2 : Int) (i229 : Int) (x307 : Int) (b308 : Int) : Option (Int ⊕ Bool) :=
  (some ((decide (x307 < c2)) && (decide (c2 < b308)))).bind fun x311 => (some ((decide (b308 < c2)) && (decide (c2 < x307)))).bind fun x312 => if (x311 || x312) then ((law21_known).bind fun r315 => Option.map Sum.inr (some r315)) else (some (Sum.inl (ad i229 1)))
noncomputable def law21_PolyclipHalves_b1 (c2 : Int) (y3 : Bool) (r176 : List (Int × Int)) (i229 : Int) : Option (Int ⊕ Bool) :=
  if (decide (i229 < (r176.length : Int))) then ((ix r176 i229).bind fun x283 => (ix r176 i229).bind fun x284 => (gd (!(decide (1048576 < (mx x283.1 x284.2)))) (ix r176 i229) (0, 0)).bind fun x285 => (gd (!(decide (1048576 < (mx x283.1 x284.2)))) (ix r176 i229) (0, 0)).bind fun x286 => (some ((decide (1048576 < (mx x283.1 x284.2))) || (decide ((mn x285.1 x286.2) < (-1048576))))).bind fun x287 => if x287 then ((law21_known).bind fun r290 => Option.map Sum.inr (some r290)) else ((ix r176 i229).bind fun x292 => (rmK (ad i229 1) (r176.length : Int)).bind fun x293 => (ix r176 x293).bind fun x294 => if y3 then (law21_PolyclipHalves_k2 c2 i229 x292.2 x294.2) else (law21_PolyclipHalves_k2 c2 i229 x292.1 x294.1))) else (Option.map Sum.inr ((polyclip_Half r176 c2 true y3).bind fun r321 => (polyclip_Half r176 c2 false y3).bind fun r324 => (polyclip_Half r321 c2 false y3).bind fun r328 => (law21_known).bind fun r332 => (gd r332 (ring_Area r321) 0).bind fun r333 => (gd r332 (ring_Area r324) 0).bind fun r334 => (gd r332 (ring_Area r176) 0).bind fun r335 => (some (r332 && (decide ((ad r333 r334) = r335)))).bind fun x336 => (gd x336 (ring_Area r328) 0).bind fun r337 => some (x336 && (decide (r337 = 0)))))
noncomputable def law21_PolyclipHalves_l1 (c2 : Int) (y3 : Bool) (r176 : List (Int × Int)) (s : Int) : Option (Bool) := loopO (fun s => law21_PolyclipHalves_b1 c2 y3 r176 s) s
noncomputable def law21_PolyclipHalves (l1 : List (Int × Int)) (c2 : Int) (y3 : Bool) : Option (Bool) :=
  (law03_Cut l1).bind fun r176 => law21_PolyclipHalves_l1 c2 y3 r176 0
end Go.Proofs.Ytopnbammdeimcaa
