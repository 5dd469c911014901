import Derived.Test.YtoccfdohlefifaaSp4
namespace Go.Proofs.Ytoccfdohlefifaa
set_option linter.unusedVariables false
noncomputable def law14_Cut_b1 (l1 : List ((List (Int × Int)) × Int × Int)) (out142 : List ((List (Int × Int)) × Int × Int)) (i145 : Int) : Option (((List ((List (Int × Int)) × Int × Int)) × Int) ⊕ (List ((List (Int × Int)) × Int × Int))) :=
  (some ((decide (i145 < (l1.length : Int))) && (decide (i145 < 10)))).bind fun x177 => if x177 then ((ix l1 i145).bind fun x182 => (cut x182.1 0 (mn (x182.1.length : Int) 20)).bind fun x190 => (app out142 [(x190, x182.2.1, x182.2.2)]).bind fun x198 => some (Sum.inl (x198, ad i145 1))) else (Option.map Sum.inr (some out142))
noncomputable def law14_Cut_l1 (l1 : List ((List (Int × Int)) × Int × Int)) (s : (List ((List (Int × Int)) × Int × Int)) × Int) : Option (List ((List (Int × Int)) × Int × Int)) := loopO (fun s => law14_Cut_b1 l1 s.1 s.2) s
noncomputable def law14_Cut (l1 : List ((List (Int × Int)) × Int × Int)) : Option (List ((List (Int × Int)) × Int × Int)) :=
  law14_Cut_l1 l1 (([] : List ((List (Int × Int)) × Int × Int)), 0)
end Go.Proofs.Ytoccfdohlefifaa
