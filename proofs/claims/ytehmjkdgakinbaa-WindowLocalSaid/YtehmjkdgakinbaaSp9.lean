/-
  Chapter 20. Said plainly. No program in sight.
-/
import Derived.Test.YtehmjkdgakinbaaSp2
import Derived.Test.YtehmjkdgakinbaaSp4
import Derived.Test.YtehmjkdgakinbaaSp6
namespace Go.Proofs.Ytehmjkdgakinbaa
set_option linter.unusedVariables false
noncomputable def law20_WindowFew_b1 (z1 : Int) (t4 : Int × Int × Int) (r135 : (Int × Int × Int) × Bool) (r140 : List (Int × Int × Int)) (i175 : Int) : Option (Int ⊕ Bool) :=
  (some ((decide (i175 < (r140.length : Int))) && r135.2)).bind fun x198 => if x198 then ((ix r140 i175).bind fun x203 => (gd (!(!decide (x203.1 = z1))) (ix r140 i175) (0, 0, 0)).bind fun x204 => (gd (!(!decide (x203.1 = z1))) (ix r140 i175) (0, 0, 0)).bind fun x205 => (some (mx (sb x204.2.1 r135.1.2.1) (sb r135.1.2.1 x205.2.1))).bind fun x206 => (some ((!decide (x203.1 = z1)) || (decide (1 < x206)))).bind fun x207 => (gd (!x207) (ix r140 i175) (0, 0, 0)).bind fun x208 => (gd (!x207) (ix r140 i175) (0, 0, 0)).bind fun x209 => (some (mx (sb x208.2.2 r135.1.2.2) (sb r135.1.2.2 x209.2.2))).bind fun x210 => if (x207 || (decide (1 < x210))) then (Option.map Sum.inr (some false)) else (some (Sum.inl (ad i175 1)))) else (Option.map Sum.inr ((window_Parent t4).bind fun r215 => if (!r215.2) then ((law20_known).bind fun r223 => some r223) else ((window_Place r215.1).bind fun r225 => (window_Place t4).bind fun r230 => (law20_known).bind fun r235 => (some (((r235 && r225.2) && r230.2) && (decide ((ml 2 r225.1.1.1) ≤ r230.1.1.1)))).bind fun x236 => (some (x236 && (decide (r230.1.2.1 ≤ (ml 2 r225.1.2.1))))).bind fun x237 => (some (x237 && (decide ((ml 2 r225.1.1.2) ≤ r230.1.1.2)))).bind fun x238 => (some (x238 && (decide (r230.1.2.2 ≤ (ml 2 r225.1.2.2))))).bind fun x239 => some x239)))
noncomputable def law20_WindowFew_l1 (z1 : Int) (t4 : Int × Int × Int) (r135 : (Int × Int × Int) × Bool) (r140 : List (Int × Int × Int)) (s : Int) : Option (Bool) := loopO (fun s => law20_WindowFew_b1 z1 t4 r135 r140 s) s
noncomputable def law20_WindowFew (z1 : Int) (buffer2 : Int) (p3 : Int × Int) (t4 : Int × Int × Int) : Option (Bool) :=
  (window_Of z1 p3).bind fun r135 => (window_Shown z1 buffer2 (p3, p3)).bind fun r140 => (some ((decide (4 < (r140.length : Int))) && r135.2)).bind fun x145 => (gd (!x145) (window_Shown z1 0 (p3, p3)) []).bind fun r146 => (some (x145 || (decide (1 < (r146.length : Int))))).bind fun x149 => if x149 then (some false) else (law20_WindowFew_l1 z1 t4 r135 r140 0)
end Go.Proofs.Ytehmjkdgakinbaa
