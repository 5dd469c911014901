/-
  Chapter 21. Said plainly. No program in sight.
-/
import Derived.Test.YtopnbammdeimcaaSp3
namespace Go.Proofs.Ytopnbammdeimcaa
set_option linter.unusedVariables false
noncomputable def ring_Alike_1_b1 (x1 : Int) (f1 : List (Int × Int)) (f2 : List (Int × Int)) (x90 : Int) : Option (Int ⊕ Bool) :=
  if (decide (x90 < (f1.length : Int))) then ((ix f1 x90).bind fun x115 => (rmK (ad x1 x90) (f2.length : Int)).bind fun x120 => (ix f2 x120).bind fun x121 => if (!decide (x115 = x121)) then (Option.map Sum.inr (some false)) else (some (Sum.inl (ad x90 1)))) else (Option.map Sum.inr (some true))
noncomputable def ring_Alike_1_l1 (x1 : Int) (f1 : List (Int × Int)) (f2 : List (Int × Int)) (s : Int) : Option (Bool) := loopO (fun s => ring_Alike_1_b1 x1 f1 f2 s) s
noncomputable def ring_Alike_1 (x1 : Int) (f1 : List (Int × Int)) (f2 : List (Int × Int)) : Option (Bool) :=
  ring_Alike_1_l1 x1 f1 f2 0
noncomputable def ring_Alike_b1 (x1 : List (Int × Int)) (b2 : List (Int × Int)) (x88 : Int) : Option (Int ⊕ Bool) :=
  if (decide (x88 < (b2.length : Int))) then ((ring_Alike_1 x88 x1 b2).bind fun r109 => if r109 then (Option.map Sum.inr (some true)) else (some (Sum.inl (ad x88 1)))) else (Option.map Sum.inr (some (decide ((x1.length : Int) = 0))))
noncomputable def ring_Alike_l1 (x1 : List (Int × Int)) (b2 : List (Int × Int)) (s : Int) : Option (Bool) := loopO (fun s => ring_Alike_b1 x1 b2 s) s
noncomputable def ring_Alike (x1 : List (Int × Int)) (b2 : List (Int × Int)) : Option (Bool) :=
  if (!decide ((x1.length : Int) = (b2.length : Int))) then (some false) else (ring_Alike_l1 x1 b2 0)
noncomputable def law21_known : Option (Bool) :=
  (polyclip_Ring [(0, 0), (8, 0), (8, 8), (0, 8)] ((2, 2), (4, 9))).bind fun r27 => (ring_Alike r27 [(2, 2), (4, 2), (4, 8), (2, 8)]).bind fun r33 => some r33
end Go.Proofs.Ytopnbammdeimcaa
