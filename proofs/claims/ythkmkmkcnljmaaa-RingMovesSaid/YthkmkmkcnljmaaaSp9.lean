/-
  Chapter 03. Said plainly. No program in sight.
-/
import Derived.Test.YthkmkmkcnljmaaaSp8
namespace Go.Proofs.Ythkmkmkcnljmaaa
set_option linter.unusedVariables false
noncomputable def ref03_Simple_b2 (l1 : List (Int × Int)) (i391 : Int) (k460 : Int) : Option (Int ⊕ (Int ⊕ Bool)) :=
  if (decide (k460 < i391)) then ((ix l1 i391).bind fun x480 => (ix l1 k460).bind fun x481 => if (decide (x480 = x481)) then (Option.map Sum.inr (Option.map Sum.inr (some false))) else (some (Sum.inl (ad k460 1)))) else (Option.map Sum.inr (some (Sum.inl (ad i391 1))))
noncomputable def ref03_Simple_l2 (l1 : List (Int × Int)) (i391 : Int) (s : Int) : Option (Int ⊕ Bool) := loopO (fun s => ref03_Simple_b2 l1 i391 s) s
noncomputable def ref03_Simple_k5 (k651 : Int) (r696 : Int) (want704 : Int) : Option (Int ⊕ (Int ⊕ Bool)) :=
  if (!decide (r696 = want704)) then (Option.map Sum.inr (Option.map Sum.inr (some false))) else (some (Sum.inl (ad k651 1)))
noncomputable def ref03_Simple_b4 (l1 : List (Int × Int)) (i506 : Int) (k651 : Int) : Option (Int ⊕ (Int ⊕ Bool)) :=
  if (decide (k651 < i506)) then ((ix l1 i506).bind fun x690 => (rmK (ad i506 1) (l1.length : Int)).bind fun x691 => (ix l1 x691).bind fun x692 => (ix l1 k651).bind fun x693 => (rmK (ad k651 1) (l1.length : Int)).bind fun x694 => (ix l1 x694).bind fun x695 => (ref02_Class x690 x692 x693 x695).bind fun r696 => (some ((decide ((sb i506 k651) = 1)) || (decide ((sb i506 k651) = (sb (l1.length : Int) 1))))).bind fun x711 => if x711 then (ref03_Simple_k5 k651 r696 1) else (ref03_Simple_k5 k651 r696 0)) else (Option.map Sum.inr (some (Sum.inl (ad i506 1))))
noncomputable def ref03_Simple_l4 (l1 : List (Int × Int)) (i506 : Int) (s : Int) : Option (Int ⊕ Bool) := loopO (fun s => ref03_Simple_b4 l1 i506 s) s
noncomputable def ref03_Simple_b3 (l1 : List (Int × Int)) (i506 : Int) : Option (Int ⊕ Bool) :=
  if (decide (i506 < (l1.length : Int))) then (ref03_Simple_l4 l1 i506 0) else (Option.map Sum.inr (some true))
noncomputable def ref03_Simple_l3 (l1 : List (Int × Int)) (s : Int) : Option (Bool) := loopO (fun s => ref03_Simple_b3 l1 s) s
noncomputable def ref03_Simple_b1 (l1 : List (Int × Int)) (i391 : Int) : Option (Int ⊕ Bool) :=
  if (decide (i391 < (l1.length : Int))) then (ref03_Simple_l2 l1 i391 0) else (Option.map Sum.inr (ref03_Simple_l3 l1 0))
noncomputable def ref03_Simple_l1 (l1 : List (Int × Int)) (s : Int) : Option (Bool) := loopO (fun s => ref03_Simple_b1 l1 s) s
noncomputable def ref03_Simple (l1 : List (Int × Int)) : Option (Bool) :=
  (gd (!(decide ((l1.length : Int) < 3))) (ref01_All l1) false).bind fun r367 => (some ((decide ((l1.length : Int) < 3)) || (!r367))).bind fun x368 => if x368 then (some false) else (ref03_Simple_l1 l1 0)
noncomputable def law03_RingAreas_k1 (r45 : List (Int × Int)) (r50 : List (Int × Int)) (area62 : Int) : Option (Bool) :=
  (law03_known).bind fun r65 => (gd r65 (ring_Area r45) 0).bind fun r66 => (gd (r65 && (decide (r66 = area62))) (ring_Simple r45) false).bind fun r67 => (gd (r65 && (decide (r66 = area62))) (ref03_Simple r50) false).bind fun r68 => (some ((r65 && (decide (r66 = area62))) && (r67 == r68))).bind fun x69 => some x69
noncomputable def law03_RingAreas (l1 : List (Int × Int)) : Option (Bool) :=
  (law03_Cut l1).bind fun r45 => (law01_Ofs r45).bind fun r50 => (gd (decide (3 ≤ (r50.length : Int))) (ref01_All r50) false).bind fun r71 => (some ((decide (3 ≤ (r50.length : Int))) && r71)).bind fun x72 => if x72 then ((ref03_Area r50).bind fun r75 => law03_RingAreas_k1 r45 r50 r75) else (law03_RingAreas_k1 r45 r50 0)
end Go.Proofs.Ythkmkmkcnljmaaa
