import Derived.Test.YtnmkonlfnpcoiaaSp5
namespace Go.Proofs.Ytnmkonlfnpcoiaa
set_option linter.unusedVariables false
noncomputable def pack_Pack_Blobs (p1 : (List Int) × (List (List Int)) × (List ((Int × Int × Int) × Int))) : Option (Int) :=
  some (p1.2.1.length : Int)
noncomputable def pack_Pack_Len (p1 : (List Int) × (List (List Int)) × (List ((Int × Int × Int) × Int))) : Option (Int) :=
  some (p1.2.2.length : Int)
noncomputable def pack_Pack_Len_nil : Option (Int) :=
  some 0
noncomputable def law27_known : Option (Bool) :=
  (pack_Write ([] : List Int) ([] : List ((Int × Int × Int) × (List Int)))).bind fun r67 => (pack_Write ([] : List Int) [((0, 0, 0), [7])]).bind fun r75 => rngO (pack_Open r75.1) (fun r79 => (some ((decide (r67.2 = 0)) && (decide (r75.2 = 0)))).bind fun x105 => (gd (x105 && (decide (r79.2 = 0))) (ref07_Same r67.1 [71, 82, 84, 49, 0, 0, 0]) false).bind fun r110 => (some ((x105 && (decide (r79.2 = 0))) && r110)).bind fun x111 => (gd x111 (ref07_Same r75.1 [71, 82, 84, 49, 0, 1, 1, 7, 1, 0, 0, 0, 0]) false).bind fun r116 => (gd (x111 && r116) (pack_Pack_Len r79.1) 0).bind fun r117 => (some ((x111 && r116) && (decide (r117 = 1)))).bind fun x118 => (gd x118 (pack_Pack_Blobs r79.1) 0).bind fun r119 => some (x118 && (decide (r119 = 1)))) (fun n89 => (some ((decide (r67.2 = 0)) && (decide (r75.2 = 0)))).bind fun x91 => (gd (x91 && (decide (n89.2 = 0))) (ref07_Same r67.1 [71, 82, 84, 49, 0, 0, 0]) false).bind fun r96 => (some ((x91 && (decide (n89.2 = 0))) && r96)).bind fun x97 => (gd x97 (ref07_Same r75.1 [71, 82, 84, 49, 0, 1, 1, 7, 1, 0, 0, 0, 0]) false).bind fun r102 => some false)
end Go.Proofs.Ytnmkonlfnpcoiaa
