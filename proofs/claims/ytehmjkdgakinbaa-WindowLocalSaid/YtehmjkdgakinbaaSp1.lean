/-
  Chapter 20. Said plainly. No program in sight.
-/
import Derived.Test.YtehmjkdgakinbaaPre
namespace Go.Proofs.Ytehmjkdgakinbaa
set_option linter.unusedVariables false
noncomputable def snap_level (z1 : Int) : Option (Bool) :=
  (some ((decide (0 ≤ z1)) && (decide (z1 ≤ 4)))).bind fun x15 => some x15
noncomputable def snap_Side (z1 : Int) : Option (Int × Bool) :=
  (snap_level z1).bind fun r21 => if (!r21) then (some (0, false)) else ((slK .i64 4096 z1).bind fun x25 => some (x25, true))
noncomputable def window_count (z1 : Int) : Option (Int) :=
  (snap_Side z1).bind fun r17 => (quK .i64 r17.1 4096).bind fun x19 => some x19
noncomputable def window_Of (z1 : Int) (p2 : Int × Int) : Option ((Int × Int × Int) × Bool) :=
  (snap_Side z1).bind fun r38 => (some (((!r38.2) || (decide (p2.1 < 0))) || (decide (p2.2 < 0)))).bind fun x41 => (some ((x41 || (decide (r38.1 < p2.1))) || (decide (r38.1 < p2.2)))).bind fun x42 => if x42 then (some ((0, 0, 0), false)) else ((window_count z1).bind fun r47 => (quK .i64 p2.1 4096).bind fun x51 => (quK .i64 p2.2 4096).bind fun x52 => some ((z1, mn x51 (sb r47 1), mn x52 (sb r47 1)), true))
noncomputable def window_buffered (n1 : Int) : Option (Bool) :=
  (some ((decide (0 ≤ n1)) && (decide (n1 ≤ 2047)))).bind fun x15 => some x15
noncomputable def exact_within (n1 : Int) (least2 : Int) (greatest3 : Int) : Option (Bool) :=
  (some ((decide (least2 ≤ n1)) && (decide (n1 ≤ greatest3)))).bind fun x15 => some x15
noncomputable def exact_Right_b1 (l1 : List (Int × Int)) (x90 : Int) : Option (Int ⊕ Bool) :=
  if (decide (x90 < (l1.length : Int))) then ((ix l1 x90).bind fun x115 => (exact_within x115.1 (-16777216) 16777216).bind fun r120 => (gd (!(!r120)) (exact_within x115.2 (-16777216) 16777216) false).bind fun r121 => if ((!r120) || (!r121)) then (Option.map Sum.inr (some false)) else (some (Sum.inl (ad x90 1)))) else (Option.map Sum.inr (some true))
noncomputable def exact_Right_l1 (l1 : List (Int × Int)) (s : Int) : Option (Bool) := loopO (fun s => exact_Right_b1 l1 s) s
noncomputable def exact_Right (l1 : List (Int × Int)) : Option (Bool) :=
  exact_Right_l1 l1 0
noncomputable def rows_Right (b1 : (Int × Int) × (Int × Int)) : Option (Bool) :=
  (exact_Right [b1.1, b1.2]).bind fun r24 => (some ((r24 && (decide (b1.1.1 ≤ b1.2.1))) && (decide (b1.1.2 ≤ b1.2.2)))).bind fun x25 => some x25
noncomputable def window_shown (n1 : Int) (buffer2 : Int) (low3 : Int) (high4 : Int) : Option (Unit) :=
  some ()
noncomputable def window_shown_1_b1 (Sx : Type) (yy : Sx → Int → Option (Bool × Sx)) (f1 : Int) (f2 : Int) (f3 : Int) (f4 : Int) (x76 : Int) (sx77 : Sx) : Option ((Int × Sx) ⊕ Sx) :=
  if (decide (x76 < f1)) then ((some ((decide ((sb (ml 4096 x76) f3) < f2)) && (decide (f4 < (ad (ml 4096 (ad x76 1)) f3))))).bind fun x102 => (gd x102 (yy sx77 x76) (false, sx77)).bind fun z103 => if (x102 && (!z103.1)) then (Option.map Sum.inr (some z103.2)) else (some (Sum.inl (ad x76 1, z103.2)))) else (Option.map Sum.inr (some sx77))
noncomputable def window_shown_1_l1 (Sx : Type) (yy : Sx → Int → Option (Bool × Sx)) (f1 : Int) (f2 : Int) (f3 : Int) (f4 : Int) (s : Int × Sx) : Option (Sx) := loopO (fun s => window_shown_1_b1 Sx yy f1 f2 f3 f4 s.1 s.2) s
noncomputable def window_shown_1 (Sx : Type) (yy : Sx → Int → Option (Bool × Sx)) (sx0 : Sx) (f1 : Int) (f2 : Int) (f3 : Int) (f4 : Int) : Option (Sx) :=
  window_shown_1_l1 Sx yy f1 f2 f3 f4 (0, sx0)
noncomputable def window_Shown_b1 (z1 : Int) (x520 : Int) (out561 : List (Int × Int × Int)) (x585 : Int) : Option ((List (Int × Int × Int)) ⊕ Empty) :=
  (app out561 [(z1, x520, x585)]).bind fun x600 => some (Sum.inl x600)
noncomputable def window_Shown_b2 (out561 : List (Int × Int × Int)) : Option ((List (Int × Int × Int)) ⊕ Empty) :=
  some (Sum.inl out561)
noncomputable def window_Shown_b3 (z1 : Int) (buffer2 : Int) (b3 : (Int × Int) × (Int × Int)) (r327 : Int) (out430 : List (Int × Int × Int)) (x520 : Int) : Option ((List (Int × Int × Int)) ⊕ Empty) :=
  rngO (window_shown_1 ((List (Int × Int × Int)) ⊕ Empty) (yb (fun (sr : List (Int × Int × Int)) (xr : Int) => window_Shown_b1 z1 x520 sr xr)) (Sum.inl out430) r327 b3.2.2 buffer2 b3.1.2) (fun (sr : List (Int × Int × Int)) => window_Shown_b2 sr) (fun (e : Empty) => nomatch e)
noncomputable def window_Shown_b4 (out430 : List (Int × Int × Int)) : Option (List (Int × Int × Int)) :=
  some out430
noncomputable def window_Shown (z1 : Int) (buffer2 : Int) (b3 : (Int × Int) × (Int × Int)) : Option (List (Int × Int × Int)) :=
  (window_buffered buffer2).bind fun r317 => (gd (!(!r317)) (rows_Right b3) false).bind fun r318 => if ((!r317) || (!r318)) then (some ([] : List (Int × Int × Int))) else ((window_count z1).bind fun r327 => rngO (window_shown_1 ((List (Int × Int × Int)) ⊕ Empty) (yb (fun (sr : List (Int × Int × Int)) (xr : Int) => window_Shown_b3 z1 buffer2 b3 r327 sr xr)) (Sum.inl ([] : List (Int × Int × Int))) r327 b3.2.1 buffer2 b3.1.1) (fun (sr : List (Int × Int × Int)) => window_Shown_b4 sr) (fun (e : Empty) => nomatch e))
end Go.Proofs.Ytehmjkdgakinbaa
