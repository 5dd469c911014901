import Derived.Test.YtaobbaohelpdgaaSp3
import Derived.Test.YtaobbaohelpdgaaSp4
namespace Go.Proofs.Ytaobbaohelpdgaa
set_option linter.unusedVariables false
noncomputable def law26_BlockCuts (n1 : (List ((List (Int × Int)) × Int × Int)) × (List (List (List Int)))) (x2 : Int) (more3 : Int) : Option (Bool) :=
  (law15_Cut n1).bind fun r99 => (block_Bytes r99).bind fun r109 => if (!decide (r109.2 = 0)) then ((law26_known).bind fun r116 => some r116) else (if (decide ((r109.1.length : Int) = 0)) then (some false) else ((some (IntKind.u64.wrap (r109.1.length : Int))).bind fun x122 => (rmK (IntKind.u64.wrap x2) x122).bind fun x123 => (cut r109.1 0 (IntKind.i64.wrap x123)).bind fun x125 => (block_Read x125).bind fun r127 => (app ([] : List Int) r109.1).bind fun x140 => (app x140 [more3]).bind fun x145 => (block_Parse x145).bind fun r148 => (law26_known).bind fun r159 => (some ((r159 && (decide (r127.2.2 = 4))) && (decide (r127.2.1 = 0)))).bind fun x160 => (gd x160 (net_Same r127.1 (([] : List ((List (Int × Int)) × Int × Int)), ([] : List (List (List Int))))) false).bind fun r161 => (some ((x160 && r161) && (decide (r148.2 = 3)))).bind fun x162 => (gd x162 (net_Same r148.1 (([] : List ((List (Int × Int)) × Int × Int)), ([] : List (List (List Int))))) false).bind fun r163 => some (x162 && r163)))
end Go.Proofs.Ytaobbaohelpdgaa
