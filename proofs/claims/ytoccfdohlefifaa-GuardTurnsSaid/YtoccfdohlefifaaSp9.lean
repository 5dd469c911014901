/-
  Chapter 18. Said plainly. No program in sight.
-/
import Derived.Test.YtoccfdohlefifaaSp6
import Derived.Test.YtoccfdohlefifaaSp7
namespace Go.Proofs.Ytoccfdohlefifaa
set_option linter.unusedVariables false
noncomputable def ref04_Put_b1 (l1 : List Int) (n2 : Int) (x74 : Int) : Option (Int ⊕ (List Int)) :=
  (gd (decide (0 < x74)) (ix l1 (sb x74 1)) 0).bind fun x86 => (some ((decide (0 < x74)) && (decide (n2 < x86)))).bind fun x87 => if x87 then (some (Sum.inl (sb x74 1))) else (Option.map Sum.inr ((cut l1 0 x74).bind fun x94 => (app ([] : List Int) x94).bind fun x96 => (app x96 [n2]).bind fun x101 => (cut l1 x74 (l1.length : Int)).bind fun x107 => (app x101 x107).bind fun x109 => some x109))
noncomputable def ref04_Put_l1 (l1 : List Int) (n2 : Int) (s : Int) : Option (List Int) := loopO (fun s => ref04_Put_b1 l1 n2 s) s
noncomputable def ref04_Put (l1 : List Int) (n2 : Int) : Option (List Int) :=
  ref04_Put_l1 l1 n2 (l1.length : Int)
noncomputable def law18_Lines_b1 (l1 : List Int) (out82 : List Int) (i84 : Int) : Option (((List Int) × Int) ⊕ (List Int)) :=
  (some ((decide (i84 < (l1.length : Int))) && (decide (i84 < 10)))).bind fun x101 => if x101 then ((ix l1 i84).bind fun x106 => (ref04_Put out82 x106).bind fun r107 => some (Sum.inl (r107, ad i84 1))) else (Option.map Sum.inr (some out82))
noncomputable def law18_Lines_l1 (l1 : List Int) (s : (List Int) × Int) : Option (List Int) := loopO (fun s => law18_Lines_b1 l1 s.1 s.2) s
noncomputable def law18_Lines (l1 : List Int) : Option (List Int) :=
  law18_Lines_l1 l1 (([] : List Int), 0)
noncomputable def law18_GuardTurns (lines1 : List Int) (l2 : List ((List (Int × Int)) × Int × Int)) (x3 : Int × Int) (b4 : Int × Int) (c5 : Int × Int) : Option (Bool) :=
  (law18_Lines lines1).bind fun r106 => (law14_Cut l2).bind fun r109 => (guard_New r106 r109).bind fun r114 => (guard_Guard_Why r114 x3 b4 c5).bind fun r137 => (law18_known).bind fun r166 => (gd r166 (guard_Guard_Why r114 c5 b4 x3) 0).bind fun r167 => (some ((r166 && (decide (r167 = r137))) && (decide (0 ≤ r137)))).bind fun x168 => (gd (x168 && (decide (r137 ≤ 4))) (guard_Guard_Drop r114 c5 b4 x3) (false, r114)).bind fun r169 => (some ((x168 && (decide (r137 ≤ 4))) && (r169.1 == (decide (r137 = 0))))).bind fun x184 => (gd x184 (guard_Guard_Why r169.2 x3 b4 c5) 0).bind fun r185 => some (x184 && (!decide (r185 = 0)))
end Go.Proofs.Ytoccfdohlefifaa
