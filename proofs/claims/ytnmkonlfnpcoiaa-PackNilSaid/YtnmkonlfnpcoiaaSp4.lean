import Derived.Test.YtnmkonlfnpcoiaaSp3
namespace Go.Proofs.Ytnmkonlfnpcoiaa
set_option linter.unusedVariables false
noncomputable def pack_Pack_Blobs (p1 : (List Int) × (List (List Int)) × (List ((Int × Int × Int) × Int))) : Option (Int) :=
  some (p1.2.1.length : Int)
noncomputable def pack_Pack_Len (p1 : (List Int) × (List (List Int)) × (List ((Int × Int × Int) × Int))) : Option (Int) :=
  some (p1.2.2.length : Int)
noncomputable def law27_known : Option (Bool) :=
  (pack_Write ([] : List Int) ([] : List ((Int × Int × Int) × (List Int)))).bind fun r52 => (pack_Write ([] : List Int) [((0, 0, 0), [7])]).bind fun r60 => (pack_Open r60.1).bind fun r64 => (some ((decide (r52.2 = 0)) && (decide (r60.2 = 0)))).bind fun x75 => (gd (x75 && (decide (r64.2 = 0))) (ref07_Same r52.1 [71, 82, 84, 49, 0, 0, 0]) false).bind fun r80 => (some ((x75 && (decide (r64.2 = 0))) && r80)).bind fun x81 => (gd x81 (ref07_Same r60.1 [71, 82, 84, 49, 0, 1, 1, 7, 1, 0, 0, 0, 0]) false).bind fun r86 => (gd (x81 && r86) (pack_Pack_Len r64.1) 0).bind fun r87 => (gd ((x81 && r86) && (decide (r87 = 1))) (pack_Pack_Blobs r64.1) 0).bind fun r88 => (some (((x81 && r86) && (decide (r87 = 1))) && (decide (r88 = 1)))).bind fun x89 => some x89
noncomputable def pack_Pack_Get_nil (t2 : Int × Int × Int) : Option ((List Int) × Bool) :=
  some (([] : List Int), false)
noncomputable def pack_Pack_Head_nil : Option (List Int) :=
  some ([] : List Int)
noncomputable def pack_Pack_Entries_nil : Option (List ((Int × Int × Int) × (List Int))) :=
  some ([] : List ((Int × Int × Int) × (List Int)))
noncomputable def pack_Pack_Len_nil : Option (Int) :=
  some 0
noncomputable def pack_Pack_Blobs_nil : Option (Int) :=
  some 0
noncomputable def law27_PackNil (t1 : Int × Int × Int) : Option (Bool) :=
  (law27_known).bind fun r36 => (some (r36 && (decide ((([] : List Int).length : Int) = 0)))).bind fun x39 => (some (x39 && (decide ((((([] : List Int), false).1).length : Int) = 0)))).bind fun x40 => (some (x40 && (!((([] : List Int), false).2)))).bind fun x41 => (some (x41 && (decide ((([] : List ((Int × Int × Int) × (List Int))).length : Int) = 0)))).bind fun x45 => some ((x45 && true) && true)
end Go.Proofs.Ytnmkonlfnpcoiaa
