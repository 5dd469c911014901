/-
  Chapter 04. Said plainly. No program in sight.
-/
import Derived.Test.YthbjlgklmamhjaaSp2
import Derived.Test.YthbjlgklmamhjaaSp3
import Derived.Test.YthbjlgklmamhjaaSp4
import Derived.Test.YthbjlgklmamhjaaSp5
import Derived.Test.YthbjlgklmamhjaaSp6
namespace Go.Proofs.Ythbjlgklmamhjaa
set_option linter.unusedVariables false
noncomputable def ref04_Apart_b1 (l1 : List Int) (x2 : Int) (b3 : Int) (i86 : Int) : Option (Int ⊕ Bool) :=
  if (decide (i86 < (l1.length : Int))) then ((ix l1 i86).bind fun x110 => (gd (decide (x2 < x110)) (ix l1 i86) 0).bind fun x111 => (some ((decide (x2 < x110)) && (decide (x111 < b3)))).bind fun x112 => (gd (!x112) (ix l1 i86) 0).bind fun x113 => (gd ((!x112) && (decide (b3 < x113))) (ix l1 i86) 0).bind fun x114 => (some ((decide (b3 < x113)) && (decide (x114 < x2)))).bind fun x115 => if (x112 || x115) then (Option.map Sum.inr (some true)) else (some (Sum.inl (ad i86 1)))) else (Option.map Sum.inr (some false))
noncomputable def ref04_Apart_l1 (l1 : List Int) (x2 : Int) (b3 : Int) (s : Int) : Option (Bool) := loopO (fun s => ref04_Apart_b1 l1 x2 b3 s) s
noncomputable def ref04_Apart (l1 : List Int) (x2 : Int) (b3 : Int) : Option (Bool) :=
  ref04_Apart_l1 l1 x2 b3 0
noncomputable def law04_OrderFinds_k5 (i464 : Int) (equal518 : Int) : Option ((Int × Int) ⊕ Bool) :=
  some (Sum.inl (equal518, ad i464 1))
noncomputable def law04_OrderFinds_b4 (n3 : Int) (m4 : Int) (x294 : List Int) (y342 : List Int) (all395 : List Int) (r423 : Int × Bool) (r425 : Int × Bool) (r427 : Int × Int) (equal463 : Int) (i464 : Int) : Option ((Int × Int) ⊕ Bool) :=
  if (decide (i464 < (x294.length : Int))) then ((ix x294 i464).bind fun x522 => if (decide (x522 = n3)) then (law04_OrderFinds_k5 i464 (ad equal463 1)) else (law04_OrderFinds_k5 i464 equal463)) else (Option.map Sum.inr ((law04_known).bind fun r526 => (gd r526 (order_Merge x294 y342) []).bind fun r527 => (gd r526 (law04_Ints r527 all395) false).bind fun r530 => (some ((r526 && r530) && (decide (r423.1 = r425.1)))).bind fun x531 => (some ((x531 && (r423.2 == r425.2)) && (decide (r427.1 = r425.1)))).bind fun x532 => (some (x532 && (decide (r427.2 = (ad r425.1 equal463))))).bind fun x533 => (gd x533 (order_Common x294 n3 m4) false).bind fun r534 => (gd x533 (ref04_Apart x294 n3 m4) false).bind fun r535 => some (x533 && (r534 == (!r535)))))
noncomputable def law04_OrderFinds_l4 (n3 : Int) (m4 : Int) (x294 : List Int) (y342 : List Int) (all395 : List Int) (r423 : Int × Bool) (r425 : Int × Bool) (r427 : Int × Int) (s : Int × Int) : Option (Bool) := loopO (fun s => law04_OrderFinds_b4 n3 m4 x294 y342 all395 r423 r425 r427 s.1 s.2) s
noncomputable def law04_OrderFinds_b3 (n3 : Int) (m4 : Int) (x294 : List Int) (y342 : List Int) (all395 : List Int) (i397 : Int) : Option (((List Int) × Int) ⊕ Bool) :=
  if (decide (i397 < (y342.length : Int))) then ((ix y342 i397).bind fun x417 => (ref04_Put all395 x417).bind fun r418 => some (Sum.inl (r418, ad i397 1))) else (Option.map Sum.inr ((order_Find x294 n3).bind fun r423 => (ref04_Find x294 n3).bind fun r425 => (order_Strips x294 n3).bind fun r427 => law04_OrderFinds_l4 n3 m4 x294 y342 all395 r423 r425 r427 (0, 0)))
noncomputable def law04_OrderFinds_l3 (n3 : Int) (m4 : Int) (x294 : List Int) (y342 : List Int) (s : (List Int) × Int) : Option (Bool) := loopO (fun s => law04_OrderFinds_b3 n3 m4 x294 y342 s.1 s.2) s
noncomputable def law04_OrderFinds_b2 (b2 : List Int) (n3 : Int) (m4 : Int) (x294 : List Int) (y342 : List Int) (i344 : Int) : Option (((List Int) × Int) ⊕ Bool) :=
  (some ((decide (i344 < (b2.length : Int))) && (decide (i344 < 60)))).bind fun x361 => if x361 then ((ix b2 i344).bind fun x366 => (ref04_Put y342 x366).bind fun r367 => some (Sum.inl (r367, ad i344 1))) else (Option.map Sum.inr ((app ([] : List Int) x294).bind fun x374 => law04_OrderFinds_l3 n3 m4 x294 y342 (x374, 0)))
noncomputable def law04_OrderFinds_l2 (b2 : List Int) (n3 : Int) (m4 : Int) (x294 : List Int) (s : (List Int) × Int) : Option (Bool) := loopO (fun s => law04_OrderFinds_b2 b2 n3 m4 x294 s.1 s.2) s
noncomputable def law04_OrderFinds_b1 (x1 : List Int) (b2 : List Int) (n3 : Int) (m4 : Int) (x294 : List Int) (i296 : Int) : Option (((List Int) × Int) ⊕ Bool) :=
  (some ((decide (i296 < (x1.length : Int))) && (decide (i296 < 60)))).bind fun x313 => if x313 then ((ix x1 i296).bind fun x318 => (ref04_Put x294 x318).bind fun r319 => some (Sum.inl (r319, ad i296 1))) else (Option.map Sum.inr (law04_OrderFinds_l2 b2 n3 m4 x294 (([] : List Int), 0)))
noncomputable def law04_OrderFinds_l1 (x1 : List Int) (b2 : List Int) (n3 : Int) (m4 : Int) (s : (List Int) × Int) : Option (Bool) := loopO (fun s => law04_OrderFinds_b1 x1 b2 n3 m4 s.1 s.2) s
noncomputable def law04_OrderFinds (x1 : List Int) (b2 : List Int) (n3 : Int) (m4 : Int) : Option (Bool) :=
  law04_OrderFinds_l1 x1 b2 n3 m4 (([] : List Int), 0)
end Go.Proofs.Ythbjlgklmamhjaa
