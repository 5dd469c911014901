import Derived.Test.YtaobbaohelpdgaaSp3
namespace Go.Proofs.Ytaobbaohelpdgaa
set_option linter.unusedVariables false
noncomputable def law01_Of (p1 : Int × Int) : Option (Int × Int) :=
  some p1
noncomputable def law01_Ofs_b1 (l1 : List (Int × Int)) (out100 : List (Int × Int)) (i102 : Int) : Option (((List (Int × Int)) × Int) ⊕ (List (Int × Int))) :=
  if (decide (i102 < (l1.length : Int))) then ((ix l1 i102).bind fun x133 => (law01_Of x133).bind fun r134 => (app out100 [r134]).bind fun x137 => some (Sum.inl (x137, ad i102 1))) else (Option.map Sum.inr (some out100))
noncomputable def law01_Ofs_l1 (l1 : List (Int × Int)) (s : (List (Int × Int)) × Int) : Option (List (Int × Int)) := loopO (fun s => law01_Ofs_b1 l1 s.1 s.2) s
noncomputable def law01_Ofs (l1 : List (Int × Int)) : Option (List (Int × Int)) :=
  law01_Ofs_l1 l1 (([] : List (Int × Int)), 0)
noncomputable def law14_Ofs_b1 (l1 : List ((List (Int × Int)) × Int × Int)) (out131 : List ((List (Int × Int)) × Int × Int)) (i134 : Int) : Option (((List ((List (Int × Int)) × Int × Int)) × Int) ⊕ (List ((List (Int × Int)) × Int × Int))) :=
  if (decide (i134 < (l1.length : Int))) then ((ix l1 i134).bind fun x180 => (law01_Ofs x180.1).bind fun r182 => (ix l1 i134).bind fun x185 => (ix l1 i134).bind fun x186 => (app out131 [(r182, x185.2.1, x186.2.2)]).bind fun x189 => some (Sum.inl (x189, ad i134 1))) else (Option.map Sum.inr (some out131))
noncomputable def law14_Ofs_l1 (l1 : List ((List (Int × Int)) × Int × Int)) (s : (List ((List (Int × Int)) × Int × Int)) × Int) : Option (List ((List (Int × Int)) × Int × Int)) := loopO (fun s => law14_Ofs_b1 l1 s.1 s.2) s
noncomputable def law14_Ofs (l1 : List ((List (Int × Int)) × Int × Int)) : Option (List ((List (Int × Int)) × Int × Int)) :=
  law14_Ofs_l1 l1 (([] : List ((List (Int × Int)) × Int × Int)), 0)
noncomputable def law15_Of (n1 : (List ((List (Int × Int)) × Int × Int)) × (List (List (List Int)))) : Option ((List ((List (Int × Int)) × Int × Int)) × (List (List (List Int)))) :=
  (law14_Ofs n1.1).bind fun r36 => some (r36, n1.2)
end Go.Proofs.Ytaobbaohelpdgaa
