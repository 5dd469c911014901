/-
  Chapter 03. Said plainly. No program in sight.
-/
import Derived.Test.YthkmkmkcnljmaaaPre
namespace Go.Proofs.Ythkmkmkcnljmaaa
set_option linter.unusedVariables false
noncomputable def law03_Cut (l1 : List (Int × Int)) : Option (List (Int × Int)) :=
  (cut l1 0 (mn (l1.length : Int) 40)).bind fun x17 => some x17
noncomputable def exact_within (n1 : Int) (least2 : Int) (greatest3 : Int) : Option (Bool) :=
  (some ((decide (least2 ≤ n1)) && (decide (n1 ≤ greatest3)))).bind fun x15 => some x15
noncomputable def exact_Right_b1 (l1 : List (Int × Int)) (x90 : Int) : Option (Int ⊕ Bool) :=
  if (decide (x90 < (l1.length : Int))) then ((ix l1 x90).bind fun x115 => (exact_within x115.1 (-16777216) 16777216).bind fun r120 => (gd (!(!r120)) (exact_within x115.2 (-16777216) 16777216) false).bind fun r121 => if ((!r120) || (!r121)) then (Option.map Sum.inr (some false)) else (some (Sum.inl (ad x90 1)))) else (Option.map Sum.inr (some true))
noncomputable def exact_Right_l1 (l1 : List (Int × Int)) (s : Int) : Option (Bool) := loopO (fun s => exact_Right_b1 l1 s) s
noncomputable def exact_Right (l1 : List (Int × Int)) : Option (Bool) :=
  exact_Right_l1 l1 0
noncomputable def ring_edges (l1 : List (Int × Int)) : Option (Unit) :=
  some ()
noncomputable def exact_Cross (x1 : Int × Int) (b2 : Int × Int) (c3 : Int × Int) : Option (Int) :=
  (exact_Right [x1, b2, c3]).bind fun r37 => if (!r37) then (some 0) else ((some (sb (ml (sb b2.1 x1.1) (sb c3.2 x1.2)) (ml (sb b2.2 x1.2) (sb c3.1 x1.1)))).bind fun x41 => some x41)
noncomputable def ring_edges_1_b1 (Sx : Type) (yy : Sx → ((Int × Int) × (Int × Int)) → Option (Bool × Sx)) (f1 : List (Int × Int)) (x100 : Int) (sx101 : Sx) : Option ((Int × Sx) ⊕ Sx) :=
  if (decide (x100 < (f1.length : Int))) then ((ix f1 x100).bind fun x130 => (rmK (ad x100 1) (f1.length : Int)).bind fun x137 => (ix f1 x137).bind fun x138 => (yy sx101 (x130, x138)).bind fun z139 => if (!z139.1) then (Option.map Sum.inr (some z139.2)) else (some (Sum.inl (ad x100 1, z139.2)))) else (Option.map Sum.inr (some sx101))
noncomputable def ring_edges_1_l1 (Sx : Type) (yy : Sx → ((Int × Int) × (Int × Int)) → Option (Bool × Sx)) (f1 : List (Int × Int)) (s : Int × Sx) : Option (Sx) := loopO (fun s => ring_edges_1_b1 Sx yy f1 s.1 s.2) s
noncomputable def ring_edges_1 (Sx : Type) (yy : Sx → ((Int × Int) × (Int × Int)) → Option (Bool × Sx)) (sx0 : Sx) (f1 : List (Int × Int)) : Option (Sx) :=
  ring_edges_1_l1 Sx yy f1 (0, sx0)
noncomputable def ring_Area_b1 (l1 : List (Int × Int)) (sum131 : Int) (x153 : (Int × Int) × (Int × Int)) : Option (Int ⊕ Empty) :=
  (ix l1 0).bind fun x168 => (exact_Cross x168 x153.1 x153.2).bind fun r169 => some (Sum.inl (ad sum131 r169))
noncomputable def ring_Area_b2 (sum131 : Int) : Option (Int) :=
  some sum131
noncomputable def ring_Area (l1 : List (Int × Int)) : Option (Int) :=
  (gd (!(decide ((l1.length : Int) < 3))) (exact_Right l1) false).bind fun r96 => (some ((decide ((l1.length : Int) < 3)) || (!r96))).bind fun x97 => if x97 then (some 0) else (rngO (ring_edges_1 (Int ⊕ Empty) (yb (fun (sr : Int) (xr : (Int × Int) × (Int × Int)) => ring_Area_b1 l1 sr xr)) (Sum.inl 0) l1) (fun (sr : Int) => ring_Area_b2 sr) (fun (e : Empty) => nomatch e))
noncomputable def exact_Turn (x1 : Int × Int) (b2 : Int × Int) (c3 : Int × Int) : Option (Int) :=
  (exact_Cross x1 b2 c3).bind fun r37 => if (decide (0 < r37)) then (some 1) else (if (decide (r37 < 0)) then (some (-1)) else (some 0))
noncomputable def exact_Less (x1 : Int × Int) (b2 : Int × Int) : Option (Bool) :=
  (some ((decide (x1.1 = b2.1)) && (decide (x1.2 < b2.2)))).bind fun x23 => some ((decide (x1.1 < b2.1)) || x23)
noncomputable def seg_line_k2 (x92 : Int × Int) (b94 : Int × Int) (c106 : Int × Int) (d108 : Int × Int) : Option (Int) :=
  (exact_Less b94 c106).bind fun r113 => (gd (!r113) (exact_Less d108 x92) false).bind fun r114 => if (r113 || r114) then (some 0) else ((some ((decide (b94 = c106)) || (decide (d108 = x92)))).bind fun x118 => if x118 then (some 1) else (some 4))
noncomputable def seg_line_k1 (c3 : Int × Int) (d4 : Int × Int) (x92 : Int × Int) (b94 : Int × Int) : Option (Int) :=
  (exact_Less d4 c3).bind fun r123 => if r123 then (seg_line_k2 x92 b94 d4 c3) else (seg_line_k2 x92 b94 c3 d4)
noncomputable def seg_line (x1 : Int × Int) (b2 : Int × Int) (c3 : Int × Int) (d4 : Int × Int) : Option (Int) :=
  (exact_Less b2 x1).bind fun r130 => if r130 then (seg_line_k1 c3 d4 b2 x1) else (seg_line_k1 c3 d4 x1 b2)
end Go.Proofs.Ythkmkmkcnljmaaa
