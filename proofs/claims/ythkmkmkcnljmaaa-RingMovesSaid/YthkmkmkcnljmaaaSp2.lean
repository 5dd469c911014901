/-
  Chapter 03. Said plainly. No program in sight.
-/
import Derived.Test.YthkmkmkcnljmaaaSp1
namespace Go.Proofs.Ythkmkmkcnljmaaa
set_option linter.unusedVariables false
noncomputable def seg_Class_k2 (ends132 : Int) : Option (Int × Int) :=
  (ix [3, 2, 1] ends132).bind fun x135 => some (x135, 0)
noncomputable def seg_Class_k1 (r106 : Int) (r107 : Int) (ends125 : Int) : Option (Int × Int) :=
  if (decide ((ml r106 r107) = 0)) then (seg_Class_k2 (ad ends125 1)) else (seg_Class_k2 ends125)
noncomputable def seg_Class (x1 : Int × Int) (b2 : Int × Int) (c3 : Int × Int) (d4 : Int × Int) : Option (Int × Int) :=
  (exact_Right [x1, b2, c3, d4]).bind fun r90 => if (!r90) then (some (0, 5)) else ((some ((decide (x1 = b2)) || (decide (c3 = d4)))).bind fun x94 => if x94 then (some (0, 1)) else ((some ((decide (x1 = c3)) && (decide (b2 = d4)))).bind fun x98 => (some ((decide (x1 = d4)) && (decide (b2 = c3)))).bind fun x99 => if (x98 || x99) then (some (5, 0)) else ((exact_Turn x1 b2 c3).bind fun r103 => (exact_Turn x1 b2 d4).bind fun r104 => (exact_Turn c3 d4 x1).bind fun r106 => (exact_Turn c3 d4 b2).bind fun r107 => (some ((decide (r103 = 0)) && (decide (r104 = 0)))).bind fun x110 => if x110 then ((seg_line x1 b2 c3 d4).bind fun r113 => some (r113, 0)) else ((some ((decide (0 < (ml r103 r104))) || (decide (0 < (ml r106 r107))))).bind fun x116 => if x116 then (some (0, 0)) else (if (decide ((ml r103 r104) = 0)) then (seg_Class_k1 r106 r107 1) else (seg_Class_k1 r106 r107 0))))))
noncomputable def ring_Simple_k1 : Option (Bool) :=
  some false
noncomputable def ring_Simple_b4 (l1 : List (Int × Int)) (x1087 : Int) (k1198 : Int) : Option (Int ⊕ (Int ⊕ Bool)) :=
  if (decide (k1198 < (l1.length : Int))) then ((ix l1 x1087).bind fun x1228 => (rmK (ad x1087 1) (l1.length : Int)).bind fun x1229 => (ix l1 x1229).bind fun x1230 => (ix l1 k1198).bind fun x1231 => (rmK (ad k1198 1) (l1.length : Int)).bind fun x1232 => (ix l1 x1232).bind fun x1233 => (seg_Class x1228 x1230 x1231 x1233).bind fun r1234 => (some ((decide (x1087 = 0)) && (decide (k1198 = (sb (l1.length : Int) 1))))).bind fun x1236 => (some ((decide (k1198 = (ad x1087 1))) || x1236)).bind fun x1237 => (some ((!x1237) && (!decide (r1234.1 = 0)))).bind fun x1239 => (some ((x1237 && (!decide (r1234.1 = 1))) || x1239)).bind fun x1240 => if x1240 then (Option.map Sum.inr (Option.map Sum.inr ring_Simple_k1)) else (some (Sum.inl (ad k1198 1)))) else (Option.map Sum.inr (some (Sum.inl (ad x1087 1))))
noncomputable def ring_Simple_l4 (l1 : List (Int × Int)) (x1087 : Int) (s : Int) : Option (Int ⊕ Bool) := loopO (fun s => ring_Simple_b4 l1 x1087 s) s
noncomputable def ring_Simple_b3 (l1 : List (Int × Int)) (x1087 : Int) : Option (Int ⊕ Bool) :=
  if (decide (x1087 < (l1.length : Int))) then (ring_Simple_l4 l1 x1087 (ad x1087 1)) else (Option.map Sum.inr (some true))
noncomputable def ring_Simple_l3 (l1 : List (Int × Int)) (s : Int) : Option (Bool) := loopO (fun s => ring_Simple_b3 l1 s) s
noncomputable def ring_Simple_b2 (l1 : List (Int × Int)) (met970 : List ((Int × Int) × Bool)) (x971 : Int) : Option (((List ((Int × Int) × Bool)) × Int) ⊕ Bool) :=
  if (decide (x971 < (l1.length : Int))) then ((ix l1 x971).bind fun x997 => if (lkM met970 x997).getD false then (Option.map Sum.inr ring_Simple_k1) else ((some (upM met970 x997 true)).bind fun D1005 => some (Sum.inl (D1005, ad x971 1)))) else (Option.map Sum.inr (ring_Simple_l3 l1 0))
noncomputable def ring_Simple_l2 (l1 : List (Int × Int)) (s : (List ((Int × Int) × Bool)) × Int) : Option (Bool) := loopO (fun s => ring_Simple_b2 l1 s.1 s.2) s
noncomputable def ring_Simple (l1 : List (Int × Int)) : Option (Bool) :=
  (gd (!(decide ((l1.length : Int) < 3))) (exact_Right l1) false).bind fun r939 => (some ((decide ((l1.length : Int) < 3)) || (!r939))).bind fun x940 => if x940 then (some false) else (ring_Simple_l2 l1 (([] : List ((Int × Int) × Bool)), 0))
end Go.Proofs.Ythkmkmkcnljmaaa
