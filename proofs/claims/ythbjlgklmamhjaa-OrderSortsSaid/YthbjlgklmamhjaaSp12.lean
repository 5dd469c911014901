/-
  Chapter 04. Said plainly. No program in sight.
-/
import Derived.Test.YthbjlgklmamhjaaSp11
namespace Go.Proofs.Ythbjlgklmamhjaa
set_option linter.unusedVariables false
noncomputable def law04_OrderSorts_b2 (x198 : List (Int × Int)) (x202 : List Int) (cut231 : List (List Int)) (i315 : Int) : Option (Int ⊕ Bool) :=
  if (decide (i315 < (cut231.length : Int))) then ((ix cut231 (sb i315 1)).bind fun x343 => (ix cut231 i315).bind fun x345 => (order_Compare x343 x345).bind fun r347 => (ix cut231 (sb i315 1)).bind fun x348 => (ix cut231 i315).bind fun x350 => (ref04_Compare x348 x350).bind fun r352 => if (!decide (r347 = r352)) then (Option.map Sum.inr (some false)) else (some (Sum.inl (ad i315 1)))) else (Option.map Sum.inr ((law04_known).bind fun r357 => (gd r357 (order_Points x198) []).bind fun r358 => (gd r357 (law01_Ofs x198) []).bind fun r361 => (gd r357 (ref04_Points r361) []).bind fun r364 => (gd r357 (law03_Same r358 r364) false).bind fun r367 => (gd (r357 && r367) (order_Rows cut231) []).bind fun r368 => (gd (r357 && r367) (ref04_Rows cut231) []).bind fun r371 => (gd (r357 && r367) (law04_Ints r368 r371) false).bind fun r374 => (gd ((r357 && r367) && r374) (order_Uniq x202) []).bind fun r375 => (gd ((r357 && r367) && r374) (ref04_Uniq x202) []).bind fun r378 => (gd ((r357 && r367) && r374) (law04_Ints r375 r378) false).bind fun r381 => some (((r357 && r367) && r374) && r381)))
noncomputable def law04_OrderSorts_l2 (x198 : List (Int × Int)) (x202 : List Int) (cut231 : List (List Int)) (s : Int) : Option (Bool) := loopO (fun s => law04_OrderSorts_b2 x198 x202 cut231 s) s
noncomputable def law04_OrderSorts_b1 (x198 : List (Int × Int)) (x200 : List (List Int)) (x202 : List Int) (cut231 : List (List Int)) (i234 : Int) : Option (((List (List Int)) × Int) ⊕ Bool) :=
  if (decide (i234 < (x200.length : Int))) then ((ix x200 i234).bind fun x277 => (ix x200 i234).bind fun x279 => (cut x277 0 (mn (x279.length : Int) 20)).bind fun x281 => (app cut231 [x281]).bind fun x285 => some (Sum.inl (x285, ad i234 1))) else (Option.map Sum.inr (law04_OrderSorts_l2 x198 x202 cut231 1))
noncomputable def law04_OrderSorts_l1 (x198 : List (Int × Int)) (x200 : List (List Int)) (x202 : List Int) (s : (List (List Int)) × Int) : Option (Bool) := loopO (fun s => law04_OrderSorts_b1 x198 x200 x202 s.1 s.2) s
noncomputable def law04_OrderSorts (l1 : List (Int × Int)) (rows2 : List (List Int)) (n3 : List Int) : Option (Bool) :=
  (cut l1 0 (mn (l1.length : Int) 60)).bind fun x198 => (cut rows2 0 (mn (rows2.length : Int) 60)).bind fun x200 => (cut n3 0 (mn (n3.length : Int) 60)).bind fun x202 => law04_OrderSorts_l1 x198 x200 x202 (([] : List (List Int)), 0)
end Go.Proofs.Ythbjlgklmamhjaa
