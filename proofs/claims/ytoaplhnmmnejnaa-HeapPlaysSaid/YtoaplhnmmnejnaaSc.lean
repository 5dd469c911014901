/-
  The heap: its calls. Said plainly. No program in sight.
-/
import Derived.Test.YtoaplhnmmnejnaaSb
namespace Go.Proofs.Ytoaplhnmmnejnaa
set_option linter.unusedVariables false
noncomputable def heap_PopNil : Option ((Int × Int × Int) × Bool) :=
  some ((0, 0, 0), false)
noncomputable def heap_Heap_Pop (h1 : ((List (Int × Int × Int)))) : Option ((Int × Int × Int) × Bool × (((List (Int × Int × Int))))) :=
  (heap_Heap_Len h1).bind fun r36 => if (decide (r36 = 0)) then (some ((0, 0, 0), false, h1)) else ((heap_list_take h1 0).bind fun r45 => some (r45.1, true, r45.2))
noncomputable def heap_TopNil : Option ((Int × Int × Int) × Bool) :=
  some ((0, 0, 0), false)
noncomputable def heap_Heap_Top (h1 : ((List (Int × Int × Int)))) : Option ((Int × Int × Int) × Bool) :=
  (heap_Heap_Len h1).bind fun r28 => if (decide (r28 = 0)) then (some ((0, 0, 0), false)) else ((ix h1 0).bind fun x34 => some (x34, true))
noncomputable def heap_DropNil_b2 (x392 : Int) : Option (Unit ⊕ (Int ⊕ Int)) :=
  Option.map Sum.inr (some (Sum.inl (ad x392 1)))
noncomputable def heap_DropNil_l2 (x392 : Int) (s : Unit) : Option (Int ⊕ Int) := loopO (fun _ => heap_DropNil_b2 x392) s
noncomputable def heap_DropNil_b1 (l2 : List (Int × Int × Int)) (x392 : Int) : Option (Int ⊕ Int) :=
  if (decide (x392 < (l2.length : Int))) then ((ix l2 x392).bind fun x556 => heap_DropNil_l2 x392 ()) else (Option.map Sum.inr (some 0))
noncomputable def heap_DropNil_l1 (l2 : List (Int × Int × Int)) (s : Int) : Option (Int) := loopO (fun s => heap_DropNil_b1 l2 s) s
noncomputable def heap_DropNil (l2 : List (Int × Int × Int)) : Option (Int) :=
  heap_DropNil_l1 l2 0
noncomputable def heap_Heap_Drop_k2 (x2022 : Int) (h2957 : List (Int × Int × Int)) (n2959 : Int) : Option (((List (Int × Int × Int)) × Int × Int) ⊕ (Int × (((List (Int × Int × Int)))))) :=
  some (Sum.inl (h2957, n2959, ad x2022 1))
noncomputable def heap_Heap_Drop_b3 (h2019 : List (Int × Int × Int)) (n2021 : Int) (x2022 : Int) (x2893 : Int × Int × Int) (r2898 : Int) (x2980 : Int) : Option (Int ⊕ (((List (Int × Int × Int)) × Int × Int) ⊕ (Int × (((List (Int × Int × Int))))))) :=
  if (decide (x2980 < r2898)) then ((ix h2019 x2980).bind fun x3006 => if (decide (x3006 = x2893)) then ((heap_list_take h2019 x2980).bind fun r3009 => Option.map Sum.inr (heap_Heap_Drop_k2 x2022 r3009.2 (ad n2021 1))) else (some (Sum.inl (ad x2980 1)))) else (Option.map Sum.inr (heap_Heap_Drop_k2 x2022 h2019 n2021))
noncomputable def heap_Heap_Drop_l3 (h2019 : List (Int × Int × Int)) (n2021 : Int) (x2022 : Int) (x2893 : Int × Int × Int) (r2898 : Int) (s : Int) : Option (((List (Int × Int × Int)) × Int × Int) ⊕ (Int × (((List (Int × Int × Int)))))) := loopO (fun s => heap_Heap_Drop_b3 h2019 n2021 x2022 x2893 r2898 s) s
noncomputable def heap_Heap_Drop_b1 (l2 : List (Int × Int × Int)) (h2019 : List (Int × Int × Int)) (n2021 : Int) (x2022 : Int) : Option (((List (Int × Int × Int)) × Int × Int) ⊕ (Int × (((List (Int × Int × Int)))))) :=
  if (decide (x2022 < (l2.length : Int))) then ((ix l2 x2022).bind fun x2893 => (heap_Heap_Len h2019).bind fun r2898 => heap_Heap_Drop_l3 h2019 n2021 x2022 x2893 r2898 0) else (Option.map Sum.inr (some (n2021, h2019)))
noncomputable def heap_Heap_Drop_l1 (l2 : List (Int × Int × Int)) (s : (List (Int × Int × Int)) × Int × Int) : Option (Int × (((List (Int × Int × Int))))) := loopO (fun s => heap_Heap_Drop_b1 l2 s.1 s.2.1 s.2.2) s
noncomputable def heap_Heap_Drop (h1 : ((List (Int × Int × Int)))) (l2 : List (Int × Int × Int)) : Option (Int × (((List (Int × Int × Int))))) :=
  heap_Heap_Drop_l1 l2 (h1, 0, 0)
noncomputable def heap_Sort_b1 (h187 : List (Int × Int × Int)) (out191 : List (Int × Int × Int)) (x195 : Int × Int × Int) (is196 : Bool) : Option (((List (Int × Int × Int)) × (List (Int × Int × Int)) × (Int × Int × Int) × Bool) ⊕ (List (Int × Int × Int))) :=
  if is196 then ((app out191 [x195]).bind fun x238 => (heap_Heap_Pop h187).bind fun r252 => some (Sum.inl (r252.2.2, x238, r252.1, r252.2.1))) else (Option.map Sum.inr (some out191))
noncomputable def heap_Sort_l1 (s : (List (Int × Int × Int)) × (List (Int × Int × Int)) × (Int × Int × Int) × Bool) : Option (List (Int × Int × Int)) := loopO (fun s => heap_Sort_b1 s.1 s.2.1 s.2.2.1 s.2.2.2) s
noncomputable def heap_Sort (l1 : List (Int × Int × Int)) : Option (List (Int × Int × Int)) :=
  (heap_Heap_Push [] l1).bind fun r139 => (heap_Heap_Pop r139.2).bind fun r146 => heap_Sort_l1 (r146.2.2, ([] : List (Int × Int × Int)), r146.1, r146.2.1)
noncomputable def heap_AllNil : Option (List (Int × Int × Int)) :=
  some ([] : List (Int × Int × Int))
noncomputable def heap_Heap_All (h1 : ((List (Int × Int × Int)))) : Option (List (Int × Int × Int)) :=
  (heap_Sort h1).bind fun r21 => some r21
end Go.Proofs.Ytoaplhnmmnejnaa
