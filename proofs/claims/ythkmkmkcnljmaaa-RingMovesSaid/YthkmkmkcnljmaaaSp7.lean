/-
  Chapter 03. Said plainly. No program in sight.
-/
import Derived.Test.YthkmkmkcnljmaaaSp4
import Derived.Test.YthkmkmkcnljmaaaSp5
namespace Go.Proofs.Ythkmkmkcnljmaaa
set_option linter.unusedVariables false
noncomputable def slices_Reverse_api_Point_api_Point_b1 (s1 : List (Int × Int)) (pas1 : Int) (pbs1 : Int) (s125 : List (Int × Int)) (i127 : Int) (j128 : Int) : Option (((List (Int × Int)) × Int × Int) ⊕ (List (Int × Int))) :=
  if (decide (i127 < j128)) then ((wn pas1 pbs1 j128).bind fun q168 => (ix s125 q168).bind fun x169 => (wn pas1 pbs1 i127).bind fun q170 => (ix s125 q170).bind fun x171 => (wn pas1 pbs1 i127).bind fun q172 => (ix s125 q172).bind fun x173 => (put s125 q172 x169).bind fun l174 => (wn pas1 pbs1 j128).bind fun q176 => (ix s125 q176).bind fun x177 => (put l174 q176 x171).bind fun l178 => some (Sum.inl (l178, ad i127 1, sb j128 1))) else (Option.map Sum.inr ((ckl s1 s125).bind fun _ => some s125))
noncomputable def slices_Reverse_api_Point_api_Point_l1 (s1 : List (Int × Int)) (pas1 : Int) (pbs1 : Int) (s : (List (Int × Int)) × Int × Int) : Option (List (Int × Int)) := loopO (fun s => slices_Reverse_api_Point_api_Point_b1 s1 pas1 pbs1 s.1 s.2.1 s.2.2) s
noncomputable def slices_Reverse_api_Point_api_Point (s1 : List (Int × Int)) (pas1 : Int) (pbs1 : Int) : Option (List (Int × Int)) :=
  slices_Reverse_api_Point_api_Point_l1 s1 pas1 pbs1 (s1, 0, sb (pbs1 - pas1) 1)
noncomputable def ring_Turned_k1 (out64 : List (Int × Int)) : Option (List (Int × Int)) :=
  some out64
noncomputable def ring_Turned (l1 : List (Int × Int)) : Option (List (Int × Int)) :=
  (slices_Clone_api_Point_api_Point l1).bind fun r47 => if (decide (1 < (r47.length : Int))) then ((cut r47 1 (r47.length : Int)).bind fun x74 => (some (r47.length : Int)).bind fun n76 => (slices_Reverse_api_Point_api_Point r47 1 n76).bind fun r77 => ring_Turned_k1 r77) else (ring_Turned_k1 r47)
noncomputable def ring_First_k2 (x358 : Int) (x454 : Int) : Option ((Int × Int) ⊕ (List (Int × Int))) :=
  some (Sum.inl (x454, ad x358 1))
noncomputable def ring_First_b1 (l1 : List (Int × Int)) (x357 : Int) (x358 : Int) : Option ((Int × Int) ⊕ (List (Int × Int))) :=
  if (decide (x358 < (l1.length : Int))) then ((ix l1 x358).bind fun x458 => (ix l1 x357).bind fun x463 => (exact_Less x458 x463).bind fun r464 => if r464 then (ring_First_k2 x358 x358) else (ring_First_k2 x358 x357)) else (Option.map Sum.inr ((cut l1 x357 (l1.length : Int)).bind fun x468 => (slices_Clone_api_Point_api_Point x468).bind fun r470 => (cut l1 0 x357).bind fun x473 => (app r470 x473).bind fun x475 => some x475))
noncomputable def ring_First_l1 (l1 : List (Int × Int)) (s : Int × Int) : Option (List (Int × Int)) := loopO (fun s => ring_First_b1 l1 s.1 s.2) s
noncomputable def ring_First (l1 : List (Int × Int)) : Option (List (Int × Int)) :=
  ring_First_l1 l1 (0, 0)
end Go.Proofs.Ythkmkmkcnljmaaa
