/-
  Chapter 06. Said plainly. No program in sight.
-/
import Derived.Test.YtajbjhcnppiloaaSp3
import Derived.Test.YtajbjhcnppiloaaSp5
namespace Go.Proofs.Ytajbjhcnppiloaa
set_option linter.unusedVariables false
noncomputable def exact_Box_b1 (l1 : List (Int × Int)) (low146 : Int × Int) (high148 : Int × Int) (x149 : Int) : Option (((Int × Int) × (Int × Int) × Int) ⊕ ((Int × Int) × (Int × Int) × Bool)) :=
  if (decide (x149 < (l1.length : Int))) then ((ix l1 x149).bind fun x175 => some (Sum.inl ((mn low146.1 x175.1, mn low146.2 x175.2), (mx high148.1 x175.1, mx high148.2 x175.2), ad x149 1))) else (Option.map Sum.inr (some (low146, high148, true)))
noncomputable def exact_Box_l1 (l1 : List (Int × Int)) (s : (Int × Int) × (Int × Int) × Int) : Option ((Int × Int) × (Int × Int) × Bool) := loopO (fun s => exact_Box_b1 l1 s.1 s.2.1 s.2.2) s
noncomputable def exact_Box (l1 : List (Int × Int)) : Option ((Int × Int) × (Int × Int) × Bool) :=
  (gd (!(decide ((l1.length : Int) = 0))) (exact_Right l1) false).bind fun r107 => (some ((decide ((l1.length : Int) = 0)) || (!r107))).bind fun x108 => if x108 then (some ((0, 0), (0, 0), false)) else ((ix l1 0).bind fun x115 => (ix l1 0).bind fun x116 => exact_Box_l1 l1 (x115, x116, 0))
noncomputable def rows_Of (l1 : List (Int × Int)) : Option (((Int × Int) × (Int × Int)) × Bool) :=
  (exact_Box l1).bind fun r27 => some ((r27.1, r27.2.1), r27.2.2)
noncomputable def law01_Ofs_b1 (l1 : List (Int × Int)) (out100 : List (Int × Int)) (i102 : Int) : Option (((List (Int × Int)) × Int) ⊕ (List (Int × Int))) :=
  if (decide (i102 < (l1.length : Int))) then ((ix l1 i102).bind fun x133 => (law01_Of x133).bind fun r134 => (app out100 [r134]).bind fun x137 => some (Sum.inl (x137, ad i102 1))) else (Option.map Sum.inr (some out100))
noncomputable def law01_Ofs_l1 (l1 : List (Int × Int)) (s : (List (Int × Int)) × Int) : Option (List (Int × Int)) := loopO (fun s => law01_Ofs_b1 l1 s.1 s.2) s
noncomputable def law01_Ofs (l1 : List (Int × Int)) : Option (List (Int × Int)) :=
  law01_Ofs_l1 l1 (([] : List (Int × Int)), 0)
noncomputable def ref01_All_b1 (l1 : List (Int × Int)) (i70 : Int) : Option (Int ⊕ Bool) :=
  if (decide (i70 < (l1.length : Int))) then ((ix l1 i70).bind fun x90 => (ref01_May x90).bind fun r91 => if (!r91) then (Option.map Sum.inr (some false)) else (some (Sum.inl (ad i70 1)))) else (Option.map Sum.inr (some true))
noncomputable def ref01_All_l1 (l1 : List (Int × Int)) (s : Int) : Option (Bool) := loopO (fun s => ref01_All_b1 l1 s) s
noncomputable def ref01_All (l1 : List (Int × Int)) : Option (Bool) :=
  ref01_All_l1 l1 0
noncomputable def law06_RowsMeet_b1 (x1 : (Int × Int) × (Int × Int)) (b2 : (Int × Int) × (Int × Int)) (x96 : List (Int × Int)) (r99 : ((Int × Int) × (Int × Int)) × Bool) (i131 : Int) : Option (Int ⊕ Bool) :=
  if (decide (i131 < (x96.length : Int))) then ((gd r99.2 (ix x96 i131) (0, 0)).bind fun x152 => (gd r99.2 (ix x96 i131) (0, 0)).bind fun x153 => (gd r99.2 (rows_Meet r99.1 (x152, x153)) false).bind fun r154 => if (r99.2 && (!r154)) then (Option.map Sum.inr (some false)) else (some (Sum.inl (ad i131 1)))) else (Option.map Sum.inr ((law06_known).bind fun r159 => (gd r159 (rows_Right x1) false).bind fun r160 => (gd r159 (law06_of x1) ((0, 0), (0, 0))).bind fun r161 => (gd r159 (ref06_Right r161) false).bind fun r162 => (gd (r159 && (r160 == r162)) (rows_Meet x1 b2) false).bind fun r163 => (gd (r159 && (r160 == r162)) (law06_of x1) ((0, 0), (0, 0))).bind fun r164 => (gd (r159 && (r160 == r162)) (law06_of b2) ((0, 0), (0, 0))).bind fun r165 => (gd (r159 && (r160 == r162)) (ref06_Meet r164 r165) false).bind fun r166 => (some ((r159 && (r160 == r162)) && (r163 == r166))).bind fun x167 => (gd x167 (rows_Meet b2 x1) false).bind fun r168 => (gd x167 (rows_Meet x1 b2) false).bind fun r169 => some (x167 && (r168 == r169))))
noncomputable def law06_RowsMeet_l1 (x1 : (Int × Int) × (Int × Int)) (b2 : (Int × Int) × (Int × Int)) (x96 : List (Int × Int)) (r99 : ((Int × Int) × (Int × Int)) × Bool) (s : Int) : Option (Bool) := loopO (fun s => law06_RowsMeet_b1 x1 b2 x96 r99 s) s
noncomputable def law06_RowsMeet (x1 : (Int × Int) × (Int × Int)) (b2 : (Int × Int) × (Int × Int)) (l3 : List (Int × Int)) : Option (Bool) :=
  (cut l3 0 (mn (l3.length : Int) 30)).bind fun x96 => (rows_Of x96).bind fun r99 => (law01_Ofs x96).bind fun r104 => (gd (decide (0 < (r104.length : Int))) (ref01_All r104) false).bind fun r109 => (some ((decide (0 < (r104.length : Int))) && r109)).bind fun x110 => (some ((!r99.2) && (!decide (r99.1 = ((0, 0), (0, 0)))))).bind fun x111 => if ((!(r99.2 == x110)) || x111) then (some false) else (law06_RowsMeet_l1 x1 b2 x96 r99 0)
end Go.Proofs.Ytajbjhcnppiloaa
