/-
  The heap: up and down. Said plainly. No program in sight.
-/
import Derived.Test.YtoaplhnmmnejnaaSa
namespace Go.Proofs.Ytoaplhnmmnejnaa
set_option linter.unusedVariables false
noncomputable def heap_list_rise_b1_0 (x90 : List (Int × Int × Int)) (i91 : Int) : Option ((((List (Int × Int × Int)) × Int)) ⊕ ((List (Int × Int × Int)))) :=
  if (decide (i91 = 0)) then (Option.map Sum.inr (some x90)) else ((quK .i64 (sb i91 1) 2).bind fun x116 => (ix x90 i91).bind fun x118 => (ix x90 x116).bind fun x119 => (heap_Less x118 x119).bind fun r120 => if r120 then ((heap_list_swap x90 i91 x116).bind fun r123 => some (Sum.inl (r123, x116))) else (Option.map Sum.inr (some x90)))
noncomputable def heap_list_rise_l1 (s : ((List (Int × Int × Int)) × Int)) : Option ((List (Int × Int × Int))) := loopO (fun s => heap_list_rise_b1_0 s.1 s.2) s
noncomputable def heap_list_rise (x1 : (List (Int × Int × Int))) (i2 : Int) : Option ((List (Int × Int × Int))) :=
  heap_list_rise_l1 (x1, i2)
noncomputable def heap_list_sink_k3 (k737 : Int) (least807 : Int) : Option ((Int × Int) ⊕ ((((List (Int × Int × Int)) × Int)) ⊕ ((List (Int × Int × Int))))) :=
  some (Sum.inl (least807, ad k737 1))
noncomputable def heap_list_sink_b2 (x554 : List (Int × Int × Int)) (i555 : Int) (least736 : Int) (k737 : Int) : Option ((Int × Int) ⊕ ((((List (Int × Int × Int)) × Int)) ⊕ ((List (Int × Int × Int))))) :=
  (some ((decide (k737 ≤ (ad (ml 2 i555) 2))) && (decide (k737 < (x554.length : Int))))).bind fun x780 => if x780 then ((ix x554 k737).bind fun x811 => (ix x554 least736).bind fun x812 => (heap_Less x811 x812).bind fun r813 => if r813 then (heap_list_sink_k3 k737 k737) else (heap_list_sink_k3 k737 least736)) else (Option.map Sum.inr (if (!decide (least736 = i555)) then ((heap_list_swap x554 i555 least736).bind fun r819 => some (Sum.inl (r819, least736))) else (Option.map Sum.inr (some x554))))
noncomputable def heap_list_sink_l2 (x554 : List (Int × Int × Int)) (i555 : Int) (s : Int × Int) : Option ((((List (Int × Int × Int)) × Int)) ⊕ ((List (Int × Int × Int)))) := loopO (fun s => heap_list_sink_b2 x554 i555 s.1 s.2) s
noncomputable def heap_list_sink_b1_0 (x554 : List (Int × Int × Int)) (i555 : Int) : Option ((((List (Int × Int × Int)) × Int)) ⊕ ((List (Int × Int × Int)))) :=
  heap_list_sink_l2 x554 i555 (i555, ad (ml 2 i555) 1)
noncomputable def heap_list_sink_l1 (s : ((List (Int × Int × Int)) × Int)) : Option ((List (Int × Int × Int))) := loopO (fun s => heap_list_sink_b1_0 s.1 s.2) s
noncomputable def heap_list_sink (x1 : (List (Int × Int × Int))) (i2 : Int) : Option ((List (Int × Int × Int))) :=
  heap_list_sink_l1 (x1, i2)
noncomputable def heap_list_take_k1 (x74 : Int × Int × Int) (x111 : List (Int × Int × Int)) : Option ((Int × Int × Int) × ((List (Int × Int × Int)))) :=
  some (x74, x111)
noncomputable def heap_list_take (x1 : (List (Int × Int × Int))) (i2 : Int) : Option ((Int × Int × Int) × ((List (Int × Int × Int)))) :=
  (ix x1 i2).bind fun x74 => (heap_list_swap x1 i2 (sb (x1.length : Int) 1)).bind fun r80 => (cut r80 0 (sb (x1.length : Int) 1)).bind fun x90 => if (decide (i2 < (sb (x1.length : Int) 1))) then ((heap_list_sink x90 i2).bind fun r119 => (heap_list_rise r119 i2).bind fun r124 => heap_list_take_k1 x74 r124) else (heap_list_take_k1 x74 x90)
noncomputable def heap_LenNil : Option (Int) :=
  some 0
noncomputable def heap_Heap_Len (h1 : ((List (Int × Int × Int)))) : Option (Int) :=
  (heap_list_count h1).bind fun r19 => some r19
noncomputable def heap_PushNil (l2 : List (Int × Int × Int)) : Option (Int) :=
  some 0
noncomputable def heap_Heap_Push_b1 (l2 : List (Int × Int × Int)) (h173 : List (Int × Int × Int)) (x175 : Int) : Option (((List (Int × Int × Int)) × Int) ⊕ (Int × (((List (Int × Int × Int)))))) :=
  if (decide (x175 < (l2.length : Int))) then ((ix l2 x175).bind fun x217 => (app h173 [x217]).bind fun x231 => (heap_list_count x231).bind fun r238 => (heap_list_rise x231 (sb r238 1)).bind fun r239 => some (Sum.inl (r239, ad x175 1))) else (Option.map Sum.inr ((heap_list_count h173).bind fun r245 => some (r245, h173)))
noncomputable def heap_Heap_Push_l1 (l2 : List (Int × Int × Int)) (s : (List (Int × Int × Int)) × Int) : Option (Int × (((List (Int × Int × Int))))) := loopO (fun s => heap_Heap_Push_b1 l2 s.1 s.2) s
noncomputable def heap_Heap_Push (h1 : ((List (Int × Int × Int)))) (l2 : List (Int × Int × Int)) : Option (Int × (((List (Int × Int × Int))))) :=
  heap_Heap_Push_l1 l2 (h1, 0)
end Go.Proofs.Ytoaplhnmmnejnaa
