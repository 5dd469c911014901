/-
  Chapter 03. Said plainly. No program in sight.
-/
import Derived.Test.YthkmkmkcnljmaaaSp13
namespace Go.Proofs.Ythkmkmkcnljmaaa
set_option linter.unusedVariables false
noncomputable def ref03_Turned_b1 (l1 : List (Int × Int)) (out100 : List (Int × Int)) (i102 : Int) : Option (((List (Int × Int)) × Int) ⊕ (List (Int × Int))) :=
  if (decide (i102 < (l1.length : Int))) then ((rmK (sb (l1.length : Int) i102) (l1.length : Int)).bind fun x133 => (ix l1 x133).bind fun x134 => (app out100 [x134]).bind fun x137 => some (Sum.inl (x137, ad i102 1))) else (Option.map Sum.inr (some out100))
noncomputable def ref03_Turned_l1 (l1 : List (Int × Int)) (s : (List (Int × Int)) × Int) : Option (List (Int × Int)) := loopO (fun s => ref03_Turned_b1 l1 s.1 s.2) s
noncomputable def ref03_Turned (l1 : List (Int × Int)) : Option (List (Int × Int)) :=
  ref03_Turned_l1 l1 (([] : List (Int × Int)), 0)
noncomputable def ref03_From_b1 (l1 : List (Int × Int)) (x2 : Int) (out100 : List (Int × Int)) (i102 : Int) : Option (((List (Int × Int)) × Int) ⊕ (List (Int × Int))) :=
  if (decide (i102 < (l1.length : Int))) then ((rmK (ad x2 i102) (l1.length : Int)).bind fun x133 => (ix l1 x133).bind fun x134 => (app out100 [x134]).bind fun x137 => some (Sum.inl (x137, ad i102 1))) else (Option.map Sum.inr (some out100))
noncomputable def ref03_From_l1 (l1 : List (Int × Int)) (x2 : Int) (s : (List (Int × Int)) × Int) : Option (List (Int × Int)) := loopO (fun s => ref03_From_b1 l1 x2 s.1 s.2) s
noncomputable def ref03_From (l1 : List (Int × Int)) (x2 : Int) : Option (List (Int × Int)) :=
  ref03_From_l1 l1 x2 (([] : List (Int × Int)), 0)
noncomputable def ref01_Less (x1 : Int × Int) (b2 : Int × Int) : Option (Bool) :=
  if (!decide (x1.1 = b2.1)) then (some (decide (x1.1 < b2.1))) else (some (decide (x1.2 < b2.2)))
noncomputable def ref03_First_k2 (i178 : Int) (x246 : Int) : Option ((Int × Int) ⊕ Int) :=
  some (Sum.inl (x246, ad i178 1))
noncomputable def ref03_First_b1 (l1 : List (Int × Int)) (x177 : Int) (i178 : Int) : Option ((Int × Int) ⊕ Int) :=
  if (decide (i178 < (l1.length : Int))) then ((ix l1 i178).bind fun x250 => (ix l1 x177).bind fun x251 => (ref01_Less x250 x251).bind fun r252 => if r252 then (ref03_First_k2 i178 i178) else (ref03_First_k2 i178 x177)) else (Option.map Sum.inr (some x177))
noncomputable def ref03_First_l1 (l1 : List (Int × Int)) (s : Int × Int) : Option (Int) := loopO (fun s => ref03_First_b1 l1 s.1 s.2) s
noncomputable def ref03_First (l1 : List (Int × Int)) : Option (Int) :=
  ref03_First_l1 l1 (0, 1)
noncomputable def ring_Alike_1_b1 (x1 : Int) (f1 : List (Int × Int)) (f2 : List (Int × Int)) (x90 : Int) : Option (Int ⊕ Bool) :=
  if (decide (x90 < (f1.length : Int))) then ((ix f1 x90).bind fun x115 => (rmK (ad x1 x90) (f2.length : Int)).bind fun x120 => (ix f2 x120).bind fun x121 => if (!decide (x115 = x121)) then (Option.map Sum.inr (some false)) else (some (Sum.inl (ad x90 1)))) else (Option.map Sum.inr (some true))
noncomputable def ring_Alike_1_l1 (x1 : Int) (f1 : List (Int × Int)) (f2 : List (Int × Int)) (s : Int) : Option (Bool) := loopO (fun s => ring_Alike_1_b1 x1 f1 f2 s) s
noncomputable def ring_Alike_1 (x1 : Int) (f1 : List (Int × Int)) (f2 : List (Int × Int)) : Option (Bool) :=
  ring_Alike_1_l1 x1 f1 f2 0
noncomputable def ring_Alike_b1 (x1 : List (Int × Int)) (b2 : List (Int × Int)) (x88 : Int) : Option (Int ⊕ Bool) :=
  if (decide (x88 < (b2.length : Int))) then ((ring_Alike_1 x88 x1 b2).bind fun r109 => if r109 then (Option.map Sum.inr (some true)) else (some (Sum.inl (ad x88 1)))) else (Option.map Sum.inr (some (decide ((x1.length : Int) = 0))))
noncomputable def ring_Alike_l1 (x1 : List (Int × Int)) (b2 : List (Int × Int)) (s : Int) : Option (Bool) := loopO (fun s => ring_Alike_b1 x1 b2 s) s
noncomputable def ring_Alike (x1 : List (Int × Int)) (b2 : List (Int × Int)) : Option (Bool) :=
  if (!decide ((x1.length : Int) = (b2.length : Int))) then (some false) else (ring_Alike_l1 x1 b2 0)
noncomputable def ref03_Alike_b1 (x1 : List (Int × Int)) (b2 : List (Int × Int)) (i88 : Int) : Option (Int ⊕ Bool) :=
  if (decide (i88 < (b2.length : Int))) then ((ref03_From b2 i88).bind fun r110 => (ref03_Same x1 r110).bind fun r113 => if r113 then (Option.map Sum.inr (some true)) else (some (Sum.inl (ad i88 1)))) else (Option.map Sum.inr (some false))
noncomputable def ref03_Alike_l1 (x1 : List (Int × Int)) (b2 : List (Int × Int)) (s : Int) : Option (Bool) := loopO (fun s => ref03_Alike_b1 x1 b2 s) s
noncomputable def ref03_Alike (x1 : List (Int × Int)) (b2 : List (Int × Int)) : Option (Bool) :=
  (ref03_Same x1 b2).bind fun r67 => if r67 then (some true) else (ref03_Alike_l1 x1 b2 1)
end Go.Proofs.Ythkmkmkcnljmaaa
