import Derived.Test.YtaobbaohelpdgaaSp6
namespace Go.Proofs.Ytaobbaohelpdgaa
set_option linter.unusedVariables false
noncomputable def ref07_Bytes : Nat → Int → Option (List Int)
  | 0, _ => none
  | fu + 1, n1 =>
    if (decide (n1 < 128)) then (some [IntKind.u8.wrap n1]) else ((rmK n1 128).bind fun x47 => (quK .u64 n1 128).bind fun x50 => (ref07_Bytes fu x50).bind fun r51 => (app [IntKind.u8.wrap (adK .u64 128 x47)] r51).bind fun x54 => some x54)
noncomputable def ref26_Bytes_b1 (r87 : List Int) (out112 : List Int) (i114 : Int) : Option (((List Int) × Int) ⊕ (List Int)) :=
  if (decide (i114 < (r87.length : Int))) then ((ix r87 i114).bind fun x145 => (ref07_Bytes 12 x145).bind fun r146 => (app out112 r146).bind fun x149 => some (Sum.inl (x149, ad i114 1))) else (Option.map Sum.inr (some out112))
noncomputable def ref26_Bytes_l1 (r87 : List Int) (s : (List Int) × Int) : Option (List Int) := loopO (fun s => ref26_Bytes_b1 r87 s.1 s.2) s
noncomputable def ref26_Bytes (n1 : (List ((List (Int × Int)) × Int × Int)) × (List (List (List Int)))) : Option (List Int) :=
  (ref26_Numbers n1).bind fun r87 => ref26_Bytes_l1 r87 (([] : List Int), 0)
noncomputable def law26_BlockTells (n1 : (List ((List (Int × Int)) × Int × Int)) × (List (List (List Int)))) (more2 : List Int) : Option (Bool) :=
  (law15_Cut n1).bind fun r122 => (cut more2 0 (mn (more2.length : Int) 20)).bind fun x130 => (law15_Of r122).bind fun r134 => (ref26_Check r134).bind fun r141 => (block_Bytes r122).bind fun r143 => (block_Check r122).bind fun r148 => (some ((!decide (r148 = r141)) || (!decide (r143.2 = r141)))).bind fun x149 => if x149 then (some false) else (if (!decide (r141 = 0)) then ((law26_known).bind fun r156 => (some (r156 && (decide ((r143.1.length : Int) = 0)))).bind fun x157 => some x157) else ((app ([] : List Int) r143.1).bind fun x161 => (app x161 x130).bind fun x164 => (block_Read x164).bind fun r167 => (block_Parse r143.1).bind fun r178 => (law26_known).bind fun r189 => (gd r189 (law15_Of r122) ([], [])).bind fun r190 => (gd r189 (ref26_Bytes r190) []).bind fun r197 => (gd r189 (ref07_Same r143.1 r197) false).bind fun r200 => (some ((r189 && r200) && (decide (r167.2.2 = 0)))).bind fun x201 => (some (x201 && (decide (r167.2.1 = (r143.1.length : Int))))).bind fun x202 => (gd x202 (net_Same r167.1 r122) false).bind fun r203 => (some ((x202 && r203) && (decide (r178.2 = 0)))).bind fun x204 => (gd x204 (net_Same r178.1 r122) false).bind fun r205 => some (x204 && r205)))
end Go.Proofs.Ytaobbaohelpdgaa
