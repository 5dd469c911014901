/-
  Chapter 22. Said plainly. No program in sight.
-/
import Derived.Test.YthjcpojcpafbjaaSp2
import Derived.Test.YthjcpojcpafbjaaSp4
import Derived.Test.YthjcpojcpafbjaaSp6
namespace Go.Proofs.Ythjcpojcpafbjaa
set_option linter.unusedVariables false
noncomputable def rows_Meet (x1 : (Int × Int) × (Int × Int)) (b2 : (Int × Int) × (Int × Int)) : Option (Bool) :=
  (rows_Right x1).bind fun r26 => (gd r26 (rows_Right b2) false).bind fun r27 => (some ((r26 && r27) && (decide (x1.1.1 ≤ b2.2.1)))).bind fun x28 => (some ((x28 && (decide (b2.1.1 ≤ x1.2.1))) && (decide (x1.1.2 ≤ b2.2.2)))).bind fun x29 => some (x29 && (decide (b2.1.2 ≤ x1.2.2)))
noncomputable def law22_LineclipTurns_b3 (b2 : (Int × Int) × (Int × Int)) (i501 : Int) (x583 : List (Int × Int)) (x585 : List (Int × Int)) (k618 : Int) : Option (Int ⊕ (Int ⊕ Bool)) :=
  if (decide (k618 < (x583.length : Int))) then ((ix x583 k618).bind fun x641 => (ix x585 (sb (sb (x585.length : Int) 1) k618)).bind fun x642 => (gd (!(!decide (x641 = x642))) (ix x583 k618) (0, 0)).bind fun x643 => (gd (!(!decide (x641 = x642))) (ix x583 k618) (0, 0)).bind fun x644 => (gd (!(!decide (x641 = x642))) (rows_Meet b2 (x643, x644)) false).bind fun r645 => if ((!decide (x641 = x642)) || (!r645)) then (Option.map Sum.inr (Option.map Sum.inr (some false))) else (some (Sum.inl (ad k618 1)))) else (Option.map Sum.inr (some (Sum.inl (ad i501 1))))
noncomputable def law22_LineclipTurns_l3 (b2 : (Int × Int) × (Int × Int)) (i501 : Int) (x583 : List (Int × Int)) (x585 : List (Int × Int)) (s : Int) : Option (Int ⊕ Bool) := loopO (fun s => law22_LineclipTurns_b3 b2 i501 x583 x585 s) s
noncomputable def law22_LineclipTurns_b2 (b2 : (Int × Int) × (Int × Int)) (r336 : List (Int × Int)) (t362 : List (Int × Int)) (r400 : List (List (Int × Int))) (r404 : List (List (Int × Int))) (i501 : Int) : Option (Int ⊕ Bool) :=
  if (decide (i501 < (r400.length : Int))) then ((ix r400 i501).bind fun x583 => (ix r404 (sb (sb (r404.length : Int) 1) i501)).bind fun x585 => (some ((!decide ((x583.length : Int) = (x585.length : Int))) || (decide ((x583.length : Int) < 2)))).bind fun x589 => (gd (!x589) (lineclip_Count x583 b2) 0).bind fun r590 => (some (x589 || (!decide (r590 = (sb (x583.length : Int) 1))))).bind fun x591 => if x591 then (Option.map Sum.inr (some false)) else (law22_LineclipTurns_l3 b2 i501 x583 x585 0)) else (Option.map Sum.inr ((law22_known).bind fun r651 => (gd r651 (lineclip_Meets r336 b2) false).bind fun r652 => (gd r651 (lineclip_Meets t362 b2) false).bind fun r653 => some (r651 && (r652 == r653))))
noncomputable def law22_LineclipTurns_l2 (b2 : (Int × Int) × (Int × Int)) (r336 : List (Int × Int)) (t362 : List (Int × Int)) (r400 : List (List (Int × Int))) (r404 : List (List (Int × Int))) (s : Int) : Option (Bool) := loopO (fun s => law22_LineclipTurns_b2 b2 r336 t362 r400 r404 s) s
noncomputable def law22_LineclipTurns_b1 (b2 : (Int × Int) × (Int × Int)) (r336 : List (Int × Int)) (t362 : List (Int × Int)) (i364 : Int) : Option (((List (Int × Int)) × Int) ⊕ Bool) :=
  if (decide (0 ≤ i364)) then ((ix r336 i364).bind fun x392 => (app t362 [x392]).bind fun x395 => some (Sum.inl (x395, sb i364 1))) else (Option.map Sum.inr ((lineclip_Parts r336 b2).bind fun r400 => (lineclip_Parts t362 b2).bind fun r404 => (gd (!(!decide ((r400.length : Int) = (r404.length : Int)))) (lineclip_Count r336 b2) 0).bind fun r410 => (gd (!(!decide ((r400.length : Int) = (r404.length : Int)))) (lineclip_Count t362 b2) 0).bind fun r411 => (some ((!decide ((r400.length : Int) = (r404.length : Int))) || (!decide (r410 = r411)))).bind fun x412 => if x412 then (some false) else (law22_LineclipTurns_l2 b2 r336 t362 r400 r404 0)))
noncomputable def law22_LineclipTurns_l1 (b2 : (Int × Int) × (Int × Int)) (r336 : List (Int × Int)) (s : (List (Int × Int)) × Int) : Option (Bool) := loopO (fun s => law22_LineclipTurns_b1 b2 r336 s.1 s.2) s
noncomputable def law22_LineclipTurns (l1 : List (Int × Int)) (b2 : (Int × Int) × (Int × Int)) : Option (Bool) :=
  (law03_Cut l1).bind fun r336 => law22_LineclipTurns_l1 b2 r336 (([] : List (Int × Int)), sb (r336.length : Int) 1)
end Go.Proofs.Ythjcpojcpafbjaa
