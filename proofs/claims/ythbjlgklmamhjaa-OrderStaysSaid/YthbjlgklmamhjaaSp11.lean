/-
  Chapter 04. Said plainly. No program in sight.
-/
import Derived.Test.YthbjlgklmamhjaaSp2
import Derived.Test.YthbjlgklmamhjaaSp3
import Derived.Test.YthbjlgklmamhjaaSp4
import Derived.Test.YthbjlgklmamhjaaSp5
import Derived.Test.YthbjlgklmamhjaaSp8
namespace Go.Proofs.Ythbjlgklmamhjaa
set_option linter.unusedVariables false
noncomputable def law01_Of (p1 : Int × Int) : Option (Int × Int) :=
  some p1
noncomputable def law01_Ofs_b1 (l1 : List (Int × Int)) (out100 : List (Int × Int)) (i102 : Int) : Option (((List (Int × Int)) × Int) ⊕ (List (Int × Int))) :=
  if (decide (i102 < (l1.length : Int))) then ((ix l1 i102).bind fun x133 => (law01_Of x133).bind fun r134 => (app out100 [r134]).bind fun x137 => some (Sum.inl (x137, ad i102 1))) else (Option.map Sum.inr (some out100))
noncomputable def law01_Ofs_l1 (l1 : List (Int × Int)) (s : (List (Int × Int)) × Int) : Option (List (Int × Int)) := loopO (fun s => law01_Ofs_b1 l1 s.1 s.2) s
noncomputable def law01_Ofs (l1 : List (Int × Int)) : Option (List (Int × Int)) :=
  law01_Ofs_l1 l1 (([] : List (Int × Int)), 0)
noncomputable def ref03_Same_b1 (x1 : List (Int × Int)) (b2 : List (Int × Int)) (i78 : Int) : Option (Int ⊕ Bool) :=
  if (decide (i78 < (x1.length : Int))) then ((ix x1 i78).bind fun x98 => (ix b2 i78).bind fun x99 => if (!decide (x98 = x99)) then (Option.map Sum.inr (some false)) else (some (Sum.inl (ad i78 1)))) else (Option.map Sum.inr (some true))
noncomputable def ref03_Same_l1 (x1 : List (Int × Int)) (b2 : List (Int × Int)) (s : Int) : Option (Bool) := loopO (fun s => ref03_Same_b1 x1 b2 s) s
noncomputable def ref03_Same (x1 : List (Int × Int)) (b2 : List (Int × Int)) : Option (Bool) :=
  if (!decide ((x1.length : Int) = (b2.length : Int))) then (some false) else (ref03_Same_l1 x1 b2 0)
noncomputable def law03_Same (l1 : List (Int × Int)) (x2 : List (Int × Int)) : Option (Bool) :=
  (law01_Ofs l1).bind fun r18 => (ref03_Same r18 x2).bind fun r21 => some r21
noncomputable def ref01_Less (x1 : Int × Int) (b2 : Int × Int) : Option (Bool) :=
  if (!decide (x1.1 = b2.1)) then (some (decide (x1.1 < b2.1))) else (some (decide (x1.2 < b2.2)))
noncomputable def ref04_Points_b2 (l1 : List (Int × Int)) (out276 : List (Int × Int)) (i278 : Int) (x361 : Int) : Option (Int ⊕ (((List (Int × Int)) × Int) ⊕ (List (Int × Int)))) :=
  (gd (decide (0 < x361)) (ix l1 i278) (0, 0)).bind fun x374 => (gd (decide (0 < x361)) (ix out276 (sb x361 1)) (0, 0)).bind fun x375 => (gd (decide (0 < x361)) (ref01_Less x374 x375) false).bind fun r376 => if ((decide (0 < x361)) && r376) then (some (Sum.inl (sb x361 1))) else (Option.map Sum.inr ((cut out276 0 x361).bind fun x383 => (app ([] : List (Int × Int)) x383).bind fun x385 => (ix l1 i278).bind fun x388 => (app x385 [x388]).bind fun x391 => (cut out276 x361 (out276.length : Int)).bind fun x397 => (app x391 x397).bind fun x399 => some (Sum.inl (x399, ad i278 1))))
noncomputable def ref04_Points_l2 (l1 : List (Int × Int)) (out276 : List (Int × Int)) (i278 : Int) (s : Int) : Option (((List (Int × Int)) × Int) ⊕ (List (Int × Int))) := loopO (fun s => ref04_Points_b2 l1 out276 i278 s) s
noncomputable def ref04_Points_b1 (l1 : List (Int × Int)) (out276 : List (Int × Int)) (i278 : Int) : Option (((List (Int × Int)) × Int) ⊕ (List (Int × Int))) :=
  if (decide (i278 < (l1.length : Int))) then (ref04_Points_l2 l1 out276 i278 (out276.length : Int)) else (Option.map Sum.inr (some out276))
noncomputable def ref04_Points_l1 (l1 : List (Int × Int)) (s : (List (Int × Int)) × Int) : Option (List (Int × Int)) := loopO (fun s => ref04_Points_b1 l1 s.1 s.2) s
noncomputable def ref04_Points (l1 : List (Int × Int)) : Option (List (Int × Int)) :=
  ref04_Points_l1 l1 (([] : List (Int × Int)), 0)
noncomputable def ref04_Rows_b2 (l1 : List (List Int)) (out316 : List Int) (i318 : Int) (x414 : Int) : Option (Int ⊕ (((List Int) × Int) ⊕ (List Int))) :=
  (gd (decide (0 < x414)) (ix l1 i318) []).bind fun x431 => (gd (decide (0 < x414)) (ix out316 (sb x414 1)) 0).bind fun x433 => (gd (decide (0 < x414)) (ix l1 x433) []).bind fun x434 => (gd (decide (0 < x414)) (ref04_Compare x431 x434) 0).bind fun r436 => (some ((decide (0 < x414)) && (decide (r436 < 0)))).bind fun x437 => if x437 then (some (Sum.inl (sb x414 1))) else (Option.map Sum.inr ((cut out316 0 x414).bind fun x444 => (app ([] : List Int) x444).bind fun x446 => (app x446 [i318]).bind fun x451 => (cut out316 x414 (out316.length : Int)).bind fun x457 => (app x451 x457).bind fun x459 => some (Sum.inl (x459, ad i318 1))))
noncomputable def ref04_Rows_l2 (l1 : List (List Int)) (out316 : List Int) (i318 : Int) (s : Int) : Option (((List Int) × Int) ⊕ (List Int)) := loopO (fun s => ref04_Rows_b2 l1 out316 i318 s) s
noncomputable def ref04_Rows_b1 (l1 : List (List Int)) (out316 : List Int) (i318 : Int) : Option (((List Int) × Int) ⊕ (List Int)) :=
  if (decide (i318 < (l1.length : Int))) then (ref04_Rows_l2 l1 out316 i318 (out316.length : Int)) else (Option.map Sum.inr (some out316))
noncomputable def ref04_Rows_l1 (l1 : List (List Int)) (s : (List Int) × Int) : Option (List Int) := loopO (fun s => ref04_Rows_b1 l1 s.1 s.2) s
noncomputable def ref04_Rows (l1 : List (List Int)) : Option (List Int) :=
  ref04_Rows_l1 l1 (([] : List Int), 0)
noncomputable def ref04_Uniq_k2 (i272 : Int) (out379 : List Int) : Option (((List Int) × Int) ⊕ (List Int)) :=
  some (Sum.inl (out379, ad i272 1))
noncomputable def ref04_Uniq_b1 (l1 : List Int) (out270 : List Int) (i272 : Int) : Option (((List Int) × Int) ⊕ (List Int)) :=
  if (decide (i272 < (l1.length : Int))) then ((ix l1 i272).bind fun x384 => (ref04_Find out270 x384).bind fun r385 => if (!r385.2) then ((ix l1 i272).bind fun x389 => (ref04_Put out270 x389).bind fun r390 => ref04_Uniq_k2 i272 r390) else (ref04_Uniq_k2 i272 out270)) else (Option.map Sum.inr (some out270))
noncomputable def ref04_Uniq_l1 (l1 : List Int) (s : (List Int) × Int) : Option (List Int) := loopO (fun s => ref04_Uniq_b1 l1 s.1 s.2) s
noncomputable def ref04_Uniq (l1 : List Int) : Option (List Int) :=
  ref04_Uniq_l1 l1 (([] : List Int), 0)
end Go.Proofs.Ythbjlgklmamhjaa
