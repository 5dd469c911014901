/-
  Chapter 20. Said plainly. No program in sight.
-/
import Derived.Test.YtehmjkdgakinbaaSp7
namespace Go.Proofs.Ytehmjkdgakinbaa
set_option linter.unusedVariables false
noncomputable def rows_Meet (x1 : (Int × Int) × (Int × Int)) (b2 : (Int × Int) × (Int × Int)) : Option (Bool) :=
  (rows_Right x1).bind fun r26 => (gd r26 (rows_Right b2) false).bind fun r27 => (some ((r26 && r27) && (decide (x1.1.1 ≤ b2.2.1)))).bind fun x28 => (some ((x28 && (decide (b2.1.1 ≤ x1.2.1))) && (decide (x1.1.2 ≤ b2.2.2)))).bind fun x29 => some (x29 && (decide (b2.1.2 ≤ x1.2.2)))
noncomputable def law20_WindowShows_b1 (p3 : Int × Int) (r100 : (Int × Int × Int) × Bool) (r125 : ((Int × Int) × (Int × Int)) × Bool) (r136 : List (Int × Int × Int)) (found152 : Bool) (i153 : Int) : Option ((Bool × Int) ⊕ Bool) :=
  if (decide (i153 < (r136.length : Int))) then ((gd (!found152) (ix r136 i153) (0, 0, 0)).bind fun x171 => (some (found152 || (decide (x171 = r100.1)))).bind fun x172 => some (Sum.inl (x172, ad i153 1))) else (Option.map Sum.inr ((some ((decide (r125.1.1.1 < p3.1)) && (decide (p3.1 < r125.1.2.1)))).bind fun x175 => (some (x175 && (decide (r125.1.1.2 < p3.2)))).bind fun x176 => (some (x176 && (decide (p3.2 < r125.1.2.2)))).bind fun x177 => (law20_known).bind fun r179 => (gd r179 (rows_Meet r125.1 (p3, p3)) false).bind fun r180 => (some ((r179 && r180) && (found152 == x177))).bind fun x181 => some x181))
noncomputable def law20_WindowShows_l1 (p3 : Int × Int) (r100 : (Int × Int × Int) × Bool) (r125 : ((Int × Int) × (Int × Int)) × Bool) (r136 : List (Int × Int × Int)) (s : Bool × Int) : Option (Bool) := loopO (fun s => law20_WindowShows_b1 p3 r100 r125 r136 s.1 s.2) s
noncomputable def law20_WindowShows (z1 : Int) (buffer2 : Int) (p3 : Int × Int) (b4 : (Int × Int) × (Int × Int)) : Option (Bool) :=
  (window_Of z1 p3).bind fun r100 => (law01_Of p3).bind fun r105 => (ref20_Of z1 r105).bind fun r106 => (window_Shown z1 buffer2 b4).bind fun r111 => (some ((!(r100.2 == r106.2)) || (!decide (r100.1 = r106.1)))).bind fun x116 => (gd (!x116) (law20_box b4) ((0, 0), (0, 0))).bind fun r117 => (gd (!x116) (ref20_Shown z1 buffer2 r117) []).bind fun r118 => (gd (!x116) (law20_same r111 r118) false).bind fun r121 => if (x116 || (!r121)) then (some false) else ((window_Window r100.1 buffer2).bind fun r125 => if ((!r100.2) || (!r125.2)) then ((law20_known).bind fun r133 => some r133) else ((window_Shown z1 buffer2 (p3, p3)).bind fun r136 => law20_WindowShows_l1 p3 r100 r125 r136 (false, 0)))
end Go.Proofs.Ytehmjkdgakinbaa
