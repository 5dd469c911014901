/-
  Chapter 22. Said plainly. No program in sight.
-/
import Derived.Test.YthjcpojcpafbjaaSp2
import Derived.Test.YthjcpojcpafbjaaSp3
namespace Go.Proofs.Ythjcpojcpafbjaa
set_option linter.unusedVariables false
noncomputable def law01_Ofs_b1 (l1 : List (Int × Int)) (out100 : List (Int × Int)) (i102 : Int) : Option (((List (Int × Int)) × Int) ⊕ (List (Int × Int))) :=
  if (decide (i102 < (l1.length : Int))) then ((ix l1 i102).bind fun x133 => (law01_Of x133).bind fun r134 => (app out100 [r134]).bind fun x137 => some (Sum.inl (x137, ad i102 1))) else (Option.map Sum.inr (some out100))
noncomputable def law01_Ofs_l1 (l1 : List (Int × Int)) (s : (List (Int × Int)) × Int) : Option (List (Int × Int)) := loopO (fun s => law01_Ofs_b1 l1 s.1 s.2) s
noncomputable def law01_Ofs (l1 : List (Int × Int)) : Option (List (Int × Int)) :=
  law01_Ofs_l1 l1 (([] : List (Int × Int)), 0)
noncomputable def ref03_Same_b1 (x1 : List (Int × Int)) (b2 : List (Int × Int)) (i78 : Int) : Option (Int ⊕ Bool) :=
  if (decide (i78 < (x1.length : Int))) then ((ix x1 i78).bind fun x98 => (ix b2 i78).bind fun x99 => if (!decide (x98 = x99)) then (Option.map Sum.inr (some false)) else (some (Sum.inl (ad i78 1)))) else (Option.map Sum.inr (some true))
noncomputable def ref03_Same_l1 (x1 : List (Int × Int)) (b2 : List (Int × Int)) (s : Int) : Option (Bool) := loopO (fun s => ref03_Same_b1 x1 b2 s) s
noncomputable def ref03_Same (x1 : List (Int × Int)) (b2 : List (Int × Int)) : Option (Bool) :=
  if (!decide ((x1.length : Int) = (b2.length : Int))) then (some false) else (ref03_Same_l1 x1 b2 0)
noncomputable def law03_Same (l1 : List (Int × Int)) (x2 : List (Int × Int)) : Option (Bool) :=
  (law01_Ofs l1).bind fun r18 => (ref03_Same r18 x2).bind fun r21 => some r21
noncomputable def law22_Same_b1 (l1 : List (List (Int × Int))) (x2 : List (List (Int × Int))) (i90 : Int) : Option (Int ⊕ Bool) :=
  if (decide (i90 < (l1.length : Int))) then ((ix l1 i90).bind fun x113 => (ix x2 i90).bind fun x115 => (law03_Same x113 x115).bind fun r117 => if (!r117) then (Option.map Sum.inr (some false)) else (some (Sum.inl (ad i90 1)))) else (Option.map Sum.inr (some true))
noncomputable def law22_Same_l1 (l1 : List (List (Int × Int))) (x2 : List (List (Int × Int))) (s : Int) : Option (Bool) := loopO (fun s => law22_Same_b1 l1 x2 s) s
noncomputable def law22_Same (l1 : List (List (Int × Int))) (x2 : List (List (Int × Int))) : Option (Bool) :=
  if (!decide ((l1.length : Int) = (x2.length : Int))) then (some false) else (law22_Same_l1 l1 x2 0)
end Go.Proofs.Ythjcpojcpafbjaa
