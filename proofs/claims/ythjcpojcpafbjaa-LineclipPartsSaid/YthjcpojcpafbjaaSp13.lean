/-
  Chapter 22. Said plainly. No program in sight.
-/
import Derived.Test.YthjcpojcpafbjaaSp12
namespace Go.Proofs.Ythjcpojcpafbjaa
set_option linter.unusedVariables false
noncomputable def ref22_Meets_b1 (l1 : List (Int × Int)) (b2 : (Int × Int) × (Int × Int)) (i110 : Int) : Option (Int ⊕ Bool) :=
  if (decide (i110 < (l1.length : Int))) then ((ix l1 (sb i110 1)).bind fun x139 => (ix l1 i110).bind fun x140 => (gd (!decide (x139 = x140)) (ix l1 (sb i110 1)) (0, 0)).bind fun x141 => (gd (!decide (x139 = x140)) (ref01_May x141) false).bind fun r142 => (gd ((!decide (x139 = x140)) && r142) (ix l1 i110) (0, 0)).bind fun x143 => (gd ((!decide (x139 = x140)) && r142) (ref01_May x143) false).bind fun r144 => (some (((!decide (x139 = x140)) && r142) && r144)).bind fun x145 => (gd x145 (ref06_Right b2) false).bind fun r146 => (gd (x145 && r146) (ix l1 (sb i110 1)) (0, 0)).bind fun x147 => (gd (x145 && r146) (ix l1 i110) (0, 0)).bind fun x148 => (gd (x145 && r146) (ref22_inside x147 x148 b2) false).bind fun r149 => if ((x145 && r146) && r149) then (Option.map Sum.inr (some true)) else (some (Sum.inl (ad i110 1)))) else (Option.map Sum.inr (some false))
noncomputable def ref22_Meets_l1 (l1 : List (Int × Int)) (b2 : (Int × Int) × (Int × Int)) (s : Int) : Option (Bool) := loopO (fun s => ref22_Meets_b1 l1 b2 s) s
noncomputable def ref22_Meets (l1 : List (Int × Int)) (b2 : (Int × Int) × (Int × Int)) : Option (Bool) :=
  ref22_Meets_l1 l1 b2 1
noncomputable def law22_LineclipParts_k2 (i350 : Int) (n474 : Int) : Option ((Int × Int) ⊕ Bool) :=
  some (Sum.inl (n474, ad i350 1))
noncomputable def law22_LineclipParts_b1 (b2 : (Int × Int) × (Int × Int)) (r262 : List (Int × Int)) (r267 : List (Int × Int)) (r270 : (Int × Int) × (Int × Int)) (n349 : Int) (i350 : Int) : Option ((Int × Int) ⊕ Bool) :=
  if (decide (i350 < (r262.length : Int))) then ((ix r267 (sb i350 1)).bind fun x478 => (ix r267 i350).bind fun x479 => (ref22_Shown x478 x479 r270).bind fun r480 => (ix r262 (sb i350 1)).bind fun x483 => (ix r262 i350).bind fun x484 => (lineclip_Shown x483 x484 b2).bind fun r485 => if (!(r485 == r480)) then (Option.map Sum.inr (some false)) else (if r480 then (law22_LineclipParts_k2 i350 (ad n349 1)) else (law22_LineclipParts_k2 i350 n349))) else (Option.map Sum.inr ((law22_known).bind fun r492 => (gd r492 (lineclip_Parts r262 b2) []).bind fun r493 => (gd r492 (ref22_Parts r267 r270) []).bind fun r497 => (gd r492 (law22_Same r493 r497) false).bind fun r501 => (gd (r492 && r501) (lineclip_Count r262 b2) 0).bind fun r502 => (some ((r492 && r501) && (decide (r502 = n349)))).bind fun x503 => (gd x503 (lineclip_Meets r262 b2) false).bind fun r504 => (gd x503 (ref22_Meets r267 r270) false).bind fun r505 => some (x503 && (r504 == r505))))
noncomputable def law22_LineclipParts_l1 (b2 : (Int × Int) × (Int × Int)) (r262 : List (Int × Int)) (r267 : List (Int × Int)) (r270 : (Int × Int) × (Int × Int)) (s : Int × Int) : Option (Bool) := loopO (fun s => law22_LineclipParts_b1 b2 r262 r267 r270 s.1 s.2) s
noncomputable def law22_LineclipParts (l1 : List (Int × Int)) (b2 : (Int × Int) × (Int × Int)) : Option (Bool) :=
  (law03_Cut l1).bind fun r262 => (law01_Ofs r262).bind fun r267 => (law21_Box b2).bind fun r270 => law22_LineclipParts_l1 b2 r262 r267 r270 (0, 1)
end Go.Proofs.Ythjcpojcpafbjaa
