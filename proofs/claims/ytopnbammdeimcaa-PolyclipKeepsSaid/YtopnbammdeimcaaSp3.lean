import Derived.Test.YtopnbammdeimcaaSp2
namespace Go.Proofs.Ytopnbammdeimcaa
set_option linter.unusedVariables false
noncomputable def law01_Of (p1 : Int × Int) : Option (Int × Int) :=
  some p1
noncomputable def law01_Ofs_b1 (l1 : List (Int × Int)) (out100 : List (Int × Int)) (i102 : Int) : Option (((List (Int × Int)) × Int) ⊕ (List (Int × Int))) :=
  if (decide (i102 < (l1.length : Int))) then ((ix l1 i102).bind fun x133 => (law01_Of x133).bind fun r134 => (app out100 [r134]).bind fun x137 => some (Sum.inl (x137, ad i102 1))) else (Option.map Sum.inr (some out100))
noncomputable def law01_Ofs_l1 (l1 : List (Int × Int)) (s : (List (Int × Int)) × Int) : Option (List (Int × Int)) := loopO (fun s => law01_Ofs_b1 l1 s.1 s.2) s
noncomputable def law01_Ofs (l1 : List (Int × Int)) : Option (List (Int × Int)) :=
  law01_Ofs_l1 l1 (([] : List (Int × Int)), 0)
noncomputable def ref03_Same_b1 (x1 : List (Int × Int)) (b2 : List (Int × Int)) (i78 : Int) : Option (Int ⊕ Bool) :=
  if (decide (i78 < (x1.length : Int))) then ((ix x1 i78).bind fun x98 => (ix b2 i78).bind fun x99 => if (!decide (x98 = x99)) then (Option.map Sum.inr (some false)) else (some (Sum.inl (ad i78 1)))) else (Option.map Sum.inr (some true))
noncomputable def ref03_Same_l1 (x1 : List (Int × Int)) (b2 : List (Int × Int)) (s : Int) : Option (Bool) := loopO (fun s => ref03_Same_b1 x1 b2 s) s
noncomputable def ref03_Same (x1 : List (Int × Int)) (b2 : List (Int × Int)) : Option (Bool) :=
  if (!decide ((x1.length : Int) = (b2.length : Int))) then (some false) else (ref03_Same_l1 x1 b2 0)
noncomputable def law03_Same (l1 : List (Int × Int)) (x2 : List (Int × Int)) : Option (Bool) :=
  (law01_Ofs l1).bind fun r18 => (ref03_Same r18 x2).bind fun r21 => some r21
noncomputable def polyclip_Whole_b2 (l1 : List (Int × Int)) (x364 : Int) (x453 : Int × Int) (r458 : (Int × Bool × Bool) × (Int × Bool × Bool) × (Int × Bool × Bool) × (Int × Bool × Bool)) (x481 : Int) : Option (Int ⊕ (Int ⊕ Bool)) :=
  if (decide (x481 < 4)) then ((ix [r458.1, r458.2.1, r458.2.2.1, r458.2.2.2] x481).bind fun x511 => (rmK (ad x364 1) (l1.length : Int)).bind fun x516 => (ix l1 x516).bind fun x517 => (polyclip_cut x453 x517 x511.1 x511.2.2).bind fun r518 => if r518.2 then (Option.map Sum.inr (Option.map Sum.inr (some false))) else (some (Sum.inl (ad x481 1)))) else (Option.map Sum.inr (some (Sum.inl (ad x364 1))))
noncomputable def polyclip_Whole_l2 (l1 : List (Int × Int)) (x364 : Int) (x453 : Int × Int) (r458 : (Int × Bool × Bool) × (Int × Bool × Bool) × (Int × Bool × Bool) × (Int × Bool × Bool)) (s : Int) : Option (Int ⊕ Bool) := loopO (fun s => polyclip_Whole_b2 l1 x364 x453 r458 s) s
noncomputable def polyclip_Whole_b1 (l1 : List (Int × Int)) (b2 : (Int × Int) × (Int × Int)) (x364 : Int) : Option (Int ⊕ Bool) :=
  if (decide (x364 < (l1.length : Int))) then ((ix l1 x364).bind fun x453 => (polyclip_sides b2).bind fun r458 => polyclip_Whole_l2 l1 x364 x453 r458 0) else (Option.map Sum.inr (some true))
noncomputable def polyclip_Whole_l1 (l1 : List (Int × Int)) (b2 : (Int × Int) × (Int × Int)) (s : Int) : Option (Bool) := loopO (fun s => polyclip_Whole_b1 l1 b2 s) s
noncomputable def polyclip_Whole (l1 : List (Int × Int)) (b2 : (Int × Int) × (Int × Int)) : Option (Bool) :=
  (gd (!(decide ((l1.length : Int) = 0))) (exact_Right l1) false).bind fun r274 => (some ((decide ((l1.length : Int) = 0)) || (!r274))).bind fun x275 => (gd (!x275) (rows_Right b2) false).bind fun r276 => if (x275 || (!r276)) then (some false) else (polyclip_Whole_l1 l1 b2 0)
end Go.Proofs.Ytopnbammdeimcaa
