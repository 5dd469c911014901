/-
  Chapter 04. Said plainly. No program in sight.
-/
import Derived.Test.YthbjlgklmamhjaaPre
namespace Go.Proofs.Ythbjlgklmamhjaa
set_option linter.unusedVariables false
noncomputable def order_Find_k2 (low199 : Int) (high200 : Int) : Option (((Int × Int)) ⊕ (Int × Bool)) :=
  some (Sum.inl (low199, high200))
noncomputable def order_Find_b1_0 (l1 : List Int) (n2 : Int) (low152 : Int) (high153 : Int) : Option (((Int × Int)) ⊕ (Int × Bool)) :=
  if (decide (low152 = high153)) then ((gd (decide (low152 < (l1.length : Int))) (ix l1 low152) 0).bind fun x188 => (some ((decide (low152 < (l1.length : Int))) && (decide (x188 = n2)))).bind fun x189 => Option.map Sum.inr (some (low152, x189))) else ((quK .i64 (sb high153 low152) 2).bind fun x203 => (ix l1 (ad low152 x203)).bind fun x205 => if (decide (x205 < n2)) then (order_Find_k2 (ad (ad low152 x203) 1) high153) else (order_Find_k2 low152 (ad low152 x203)))
noncomputable def order_Find_l1 (l1 : List Int) (n2 : Int) (s : (Int × Int)) : Option (Int × Bool) := loopO (fun s => order_Find_b1_0 l1 n2 s.1 s.2) s
noncomputable def order_Find_k3 (l1 : List Int) (n2 : Int) (low226 : Int) (high227 : Int) : Option (Int × Bool) :=
  order_Find_l1 l1 n2 (low226, high227)
noncomputable def order_Find (l1 : List Int) (n2 : Int) : Option (Int × Bool) :=
  if (decide (0 = (l1.length : Int))) then ((gd (decide (0 < (l1.length : Int))) (ix l1 0) 0).bind fun x215 => (some ((decide (0 < (l1.length : Int))) && (decide (x215 = n2)))).bind fun x216 => some (0, x216)) else ((quK .i64 (sb (l1.length : Int) 0) 2).bind fun x230 => (ix l1 (ad 0 x230)).bind fun x232 => if (decide (x232 < n2)) then (order_Find_k3 l1 n2 (ad (ad 0 x230) 1) (l1.length : Int)) else (order_Find_k3 l1 n2 0 (ad 0 x230)))
noncomputable def order_Strips_b1 (l1 : List Int) (n2 : Int) (r45 : Int × Bool) (last58 : Int) : Option (Int ⊕ (Int × Int)) :=
  (some (r45.2 && (decide (last58 < (l1.length : Int))))).bind fun x70 => (gd x70 (ix l1 last58) 0).bind fun x71 => if (x70 && (decide (x71 = n2))) then (some (Sum.inl (ad last58 1))) else (Option.map Sum.inr (some (r45.1, last58)))
noncomputable def order_Strips_l1 (l1 : List Int) (n2 : Int) (r45 : Int × Bool) (s : Int) : Option (Int × Int) := loopO (fun s => order_Strips_b1 l1 n2 r45 s) s
noncomputable def order_Strips (l1 : List Int) (n2 : Int) : Option (Int × Int) :=
  (order_Find l1 n2).bind fun r45 => order_Strips_l1 l1 n2 r45 r45.1
noncomputable def order_Common (l1 : List Int) (x2 : Int) (b3 : Int) : Option (Bool) :=
  (order_Strips l1 x2).bind fun r19 => (order_Strips l1 b3).bind fun r21 => (some ((decide (r19.1 ≤ r21.2)) && (decide (r21.1 ≤ r19.2)))).bind fun x23 => some x23
noncomputable def slices_Clone_int_int (s1 : List Int) : Option (List Int) :=
  (app ([] : List Int) s1).bind fun x28 => some x28
noncomputable def cmp_isNaN_int (x1 : Int) : Option (Bool) :=
  some (!decide (x1 = x1))
noncomputable def cmp_Compare_int (x1 : Int) (y2 : Int) : Option (Int) :=
  (cmp_isNaN_int x1).bind fun r38 => (cmp_isNaN_int y2).bind fun r40 => if r38 then (if r40 then (some 0) else (some (-1))) else (if r40 then (some 1) else (if (decide (x1 < y2)) then (some (-1)) else (if (decide (y2 < x1)) then (some 1) else (some 0))))
noncomputable def slices_Compare_int_int_b1 (s1 : List Int) (s2 : List Int) (x106 : Int) : Option (Int ⊕ Int) :=
  if (decide (x106 < (s1.length : Int))) then ((ix s1 x106).bind fun x134 => if (decide ((s2.length : Int) ≤ x106)) then (Option.map Sum.inr (some 1)) else ((ix s2 x106).bind fun x140 => (cmp_Compare_int x134 x140).bind fun r142 => if (!decide (r142 = 0)) then (Option.map Sum.inr (some r142)) else (some (Sum.inl (ad x106 1))))) else (Option.map Sum.inr (if (decide ((s1.length : Int) < (s2.length : Int))) then (some (-1)) else (some 0)))
noncomputable def slices_Compare_int_int_l1 (s1 : List Int) (s2 : List Int) (s : Int) : Option (Int) := loopO (fun s => slices_Compare_int_int_b1 s1 s2 s) s
noncomputable def slices_Compare_int_int (s1 : List Int) (s2 : List Int) : Option (Int) :=
  slices_Compare_int_int_l1 s1 s2 0
end Go.Proofs.Ythbjlgklmamhjaa
