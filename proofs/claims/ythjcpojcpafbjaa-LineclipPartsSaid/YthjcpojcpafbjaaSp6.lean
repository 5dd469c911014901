/-
  Chapter 22. Said plainly. No program in sight.
-/
import Derived.Test.YthjcpojcpafbjaaSp2
import Derived.Test.YthjcpojcpafbjaaSp4
namespace Go.Proofs.Ythjcpojcpafbjaa
set_option linter.unusedVariables false
noncomputable def lineclip_Count_b1 (r66 : List (List (Int × Int))) (n84 : Int) (x86 : Int) : Option ((Int × Int) ⊕ Int) :=
  if (decide (x86 < (r66.length : Int))) then ((ix r66 x86).bind fun x105 => some (Sum.inl (ad n84 (sb (x105.length : Int) 1), ad x86 1))) else (Option.map Sum.inr (some n84))
noncomputable def lineclip_Count_l1 (r66 : List (List (Int × Int))) (s : Int × Int) : Option (Int) := loopO (fun s => lineclip_Count_b1 r66 s.1 s.2) s
noncomputable def lineclip_Count (l1 : List (Int × Int)) (b2 : (Int × Int) × (Int × Int)) : Option (Int) :=
  (lineclip_Parts l1 b2).bind fun r66 => lineclip_Count_l1 r66 (0, 0)
end Go.Proofs.Ythjcpojcpafbjaa
