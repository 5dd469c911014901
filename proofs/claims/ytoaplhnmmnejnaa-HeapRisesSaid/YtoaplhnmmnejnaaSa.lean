/-
  The heap, and the document of it. Said plainly. No program in sight.
-/
import Derived.Test.YtoaplhnmmnejnaaPre
namespace Go.Proofs.Ytoaplhnmmnejnaa
set_option linter.unusedVariables false
noncomputable def heap_Less (x1 : Int × Int × Int) (b2 : Int × Int × Int) : Option (Bool) :=
  if (!decide (x1.1 = b2.1)) then (some (decide (x1.1 < b2.1))) else (if (!decide (x1.2.1 = b2.2.1)) then (some (decide (x1.2.1 < b2.2.1))) else (some (decide (x1.2.2 < b2.2.2))))
noncomputable def ref05_Less (x1 : Int × Int × Int) (b2 : Int × Int × Int) : Option (Bool) :=
  (some ((decide (x1.2.1 = b2.2.1)) && (decide (x1.2.2 < b2.2.2)))).bind fun x24 => (some ((decide (x1.1 = b2.1)) && ((decide (x1.2.1 < b2.2.1)) || x24))).bind fun x25 => some ((decide (x1.1 < b2.1)) || x25)
noncomputable def heap_list_count (x1 : (List (Int × Int × Int))) : Option (Int) :=
  some (x1.length : Int)
noncomputable def heap_list_swap (x1 : (List (Int × Int × Int))) (i2 : Int) (k3 : Int) : Option ((List (Int × Int × Int))) :=
  (ix x1 k3).bind fun x30 => (ix x1 i2).bind fun x31 => (ix x1 i2).bind fun x32 => (put x1 i2 x30).bind fun l33 => (ix x1 k3).bind fun x35 => (put l33 k3 x31).bind fun l36 => some l36
noncomputable def law05_same_b1 (l1 : List (Int × Int × Int)) (x2 : List (Int × Int × Int)) (i78 : Int) : Option (Int ⊕ Bool) :=
  if (decide (i78 < (l1.length : Int))) then ((ix l1 i78).bind fun x98 => (ix x2 i78).bind fun x99 => if (!decide (x98 = x99)) then (Option.map Sum.inr (some false)) else (some (Sum.inl (ad i78 1)))) else (Option.map Sum.inr (some true))
noncomputable def law05_same_l1 (l1 : List (Int × Int × Int)) (x2 : List (Int × Int × Int)) (s : Int) : Option (Bool) := loopO (fun s => law05_same_b1 l1 x2 s) s
noncomputable def law05_same (l1 : List (Int × Int × Int)) (x2 : List (Int × Int × Int)) : Option (Bool) :=
  if (!decide ((l1.length : Int) = (x2.length : Int))) then (some false) else (law05_same_l1 l1 x2 0)
noncomputable def ref05_Push_b1 (l1 : List (Int × Int × Int)) (x2 : Int × Int × Int) (x82 : Int) : Option (Int ⊕ (List (Int × Int × Int))) :=
  (gd (decide (x82 < (l1.length : Int))) (ix l1 x82) (0, 0, 0)).bind fun x95 => (gd (decide (x82 < (l1.length : Int))) (ref05_Less x2 x95) false).bind fun r96 => (some ((decide (x82 < (l1.length : Int))) && (!r96))).bind fun x97 => if x97 then (some (Sum.inl (ad x82 1))) else (Option.map Sum.inr ((cut l1 0 x82).bind fun x104 => (app ([] : List (Int × Int × Int)) x104).bind fun x106 => (app x106 [x2]).bind fun x111 => (cut l1 x82 (l1.length : Int)).bind fun x117 => (app x111 x117).bind fun x119 => some x119))
noncomputable def ref05_Push_l1 (l1 : List (Int × Int × Int)) (x2 : Int × Int × Int) (s : Int) : Option (List (Int × Int × Int)) := loopO (fun s => ref05_Push_b1 l1 x2 s) s
noncomputable def ref05_Push (l1 : List (Int × Int × Int)) (x2 : Int × Int × Int) : Option (List (Int × Int × Int)) :=
  ref05_Push_l1 l1 x2 0
end Go.Proofs.Ytoaplhnmmnejnaa
