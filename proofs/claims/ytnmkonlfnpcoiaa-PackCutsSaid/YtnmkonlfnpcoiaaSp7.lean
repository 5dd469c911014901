import Derived.Test.YtnmkonlfnpcoiaaSp6
namespace Go.Proofs.Ytnmkonlfnpcoiaa
set_option linter.unusedVariables false
noncomputable def law27_Cut_b1 (l1 : List ((Int × Int × Int) × (List Int))) (out140 : List ((Int × Int × Int) × (List Int))) (i143 : Int) : Option (((List ((Int × Int × Int) × (List Int))) × Int) ⊕ (List ((Int × Int × Int) × (List Int)))) :=
  (some ((decide (i143 < (l1.length : Int))) && (decide (i143 < 20)))).bind fun x175 => if x175 then ((ix l1 i143).bind fun x180 => (cut x180.2 0 (mn (x180.2.length : Int) 30)).bind fun x188 => (app out140 [(x180.1, x188)]).bind fun x196 => some (Sum.inl (x196, ad i143 1))) else (Option.map Sum.inr (some out140))
noncomputable def law27_Cut_l1 (l1 : List ((Int × Int × Int) × (List Int))) (s : (List ((Int × Int × Int) × (List Int))) × Int) : Option (List ((Int × Int × Int) × (List Int))) := loopO (fun s => law27_Cut_b1 l1 s.1 s.2) s
noncomputable def law27_Cut (l1 : List ((Int × Int × Int) × (List Int))) : Option (List ((Int × Int × Int) × (List Int))) :=
  law27_Cut_l1 l1 (([] : List ((Int × Int × Int) × (List Int))), 0)
end Go.Proofs.Ytnmkonlfnpcoiaa
