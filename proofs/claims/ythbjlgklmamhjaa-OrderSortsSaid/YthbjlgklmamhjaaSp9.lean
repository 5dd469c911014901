/-
  Chapter 04. Said plainly. No program in sight.
-/
import Derived.Test.YthbjlgklmamhjaaSp2
import Derived.Test.YthbjlgklmamhjaaSp3
namespace Go.Proofs.Ythbjlgklmamhjaa
set_option linter.unusedVariables false
noncomputable def law04_OrderStrips_b2 (x2 : Int) (b3 : Int) (c4 : Int) (x147 : List Int) (r177 : Int × Int) (i204 : Int) : Option (Int ⊕ Bool) :=
  if (decide (i204 < (x147.length : Int))) then ((ix x147 i204).bind fun x226 => (some ((decide (x226 < x2)) && (decide (r177.1 ≤ i204)))).bind fun x227 => (gd (!x227) (ix x147 i204) 0).bind fun x228 => (some ((decide (x2 < x228)) && (decide (i204 < r177.2)))).bind fun x229 => if (x227 || x229) then (Option.map Sum.inr (some false)) else (some (Sum.inl (ad i204 1)))) else (Option.map Sum.inr ((law04_known).bind fun r235 => (gd r235 (order_Common x147 x2 b3) false).bind fun r236 => (gd r235 (order_Common x147 b3 x2) false).bind fun r237 => (gd (r235 && (r236 == r237)) (order_Common x147 x2 x2) false).bind fun r238 => (gd ((r235 && (r236 == r237)) && r238) (order_Common x147 x2 b3) false).bind fun r239 => (gd (((r235 && (r236 == r237)) && r238) && (!(!r239))) (order_Common x147 x2 (mn (mx c4 (mn x2 b3)) (mx x2 b3))) false).bind fun r240 => (some (((r235 && (r236 == r237)) && r238) && ((!r239) || r240))).bind fun x241 => some x241))
noncomputable def law04_OrderStrips_l2 (x2 : Int) (b3 : Int) (c4 : Int) (x147 : List Int) (r177 : Int × Int) (s : Int) : Option (Bool) := loopO (fun s => law04_OrderStrips_b2 x2 b3 c4 x147 r177 s) s
noncomputable def law04_OrderStrips_b1 (l1 : List Int) (x2 : Int) (b3 : Int) (c4 : Int) (x147 : List Int) (i149 : Int) : Option (((List Int) × Int) ⊕ Bool) :=
  (some ((decide (i149 < (l1.length : Int))) && (decide (i149 < 60)))).bind fun x166 => if x166 then ((ix l1 i149).bind fun x171 => (ref04_Put x147 x171).bind fun r172 => some (Sum.inl (r172, ad i149 1))) else (Option.map Sum.inr ((order_Strips x147 x2).bind fun r177 => (order_Find x147 x2).bind fun r179 => (some ((decide (r177.1 < 0)) || (decide ((x147.length : Int) < r177.2)))).bind fun x182 => (some (x182 || (!((decide (r177.1 < r177.2)) == r179.2)))).bind fun x183 => if (x183 || (decide (r177.2 < r177.1))) then (some false) else (law04_OrderStrips_l2 x2 b3 c4 x147 r177 0)))
noncomputable def law04_OrderStrips_l1 (l1 : List Int) (x2 : Int) (b3 : Int) (c4 : Int) (s : (List Int) × Int) : Option (Bool) := loopO (fun s => law04_OrderStrips_b1 l1 x2 b3 c4 s.1 s.2) s
noncomputable def law04_OrderStrips (l1 : List Int) (x2 : Int) (b3 : Int) (c4 : Int) : Option (Bool) :=
  law04_OrderStrips_l1 l1 x2 b3 c4 (([] : List Int), 0)
end Go.Proofs.Ythbjlgklmamhjaa
