import Derived.Test.YthkmkmkcnljmaaaPst
namespace Go.Proofs.Ythkmkmkcnljmaaa
set_option linter.unusedVariables false
noncomputable def law03_Cut (l1 : List (Int × Int)) : Option (List (Int × Int)) :=
  (cut l1 0 (mn (l1.length : Int) 40)).bind fun x17 => some x17
noncomputable def exact_within (n1 : Int) (least2 : Int) (greatest3 : Int) : Option (Bool) :=
  (some ((decide (least2 ≤ n1)) && (decide (n1 ≤ greatest3)))).bind fun x15 => some x15
noncomputable def exact_Right_b1 (l1 : List (Int × Int)) (x90 : Int) : Option (Int ⊕ Bool) :=
  if (decide (x90 < (l1.length : Int))) then ((ix l1 x90).bind fun x115 => (exact_within x115.1 (-16777216) 16777216).bind fun r120 => (gd (!(!r120)) (exact_within x115.2 (-16777216) 16777216) false).bind fun r121 => if ((!r120) || (!r121)) then (Option.map Sum.inr (some false)) else (some (Sum.inl (ad x90 1)))) else (Option.map Sum.inr (some true))
noncomputable def exact_Right_l1 (l1 : List (Int × Int)) (s : Int) : Option (Bool) := loopO (fun s => exact_Right_b1 l1 s) s
noncomputable def exact_Right (l1 : List (Int × Int)) : Option (Bool) :=
  exact_Right_l1 l1 0
noncomputable def ring_edges (l1 : List (Int × Int)) : Option (Unit) :=
  some ()
noncomputable def exact_Cross (x1 : Int × Int) (b2 : Int × Int) (c3 : Int × Int) : Option (Int) :=
  (exact_Right [x1, b2, c3]).bind fun r37 => if (!r37) then (some 0) else ((some (sb (ml (sb b2.1 x1.1) (sb c3.2 x1.2)) (ml (sb b2.2 x1.2) (sb c3.1 x1.1)))).bind fun x41 => some x41)
noncomputable def ring_edges_1_b1 (Sx : Type) (yy : Sx → ((Int × Int) × (Int × Int)) → Option (Bool × Sx)) (f1 : List (Int × Int)) (x100 : Int) (sx101 : Sx) : Option ((Int × Sx) ⊕ Sx) :=
  if (decide (x100 < (f1.length : Int))) then ((ix f1 x100).bind fun x130 => (rmK (ad x100 1) (f1.length : Int)).bind fun x137 => (ix f1 x137).bind fun x138 => (yy sx101 (x130, x138)).bind fun z139 => if (!z139.1) then (Option.map Sum.inr (some z139.2)) else (some (Sum.inl (ad x100 1, z139.2)))) else (Option.map Sum.inr (some sx101))
noncomputable def ring_edges_1_l1 (Sx : Type) (yy : Sx → ((Int × Int) × (Int × Int)) → Option (Bool × Sx)) (f1 : List (Int × Int)) (s : Int × Sx) : Option (Sx) := loopO (fun s => ring_edges_1_b1 Sx yy f1 s.1 s.2) s
noncomputable def ring_edges_1 (Sx : Type) (yy : Sx → ((Int × Int) × (Int × Int)) → Option (Bool × Sx)) (sx0 : Sx) (f1 : List (Int × Int)) : Option (Sx) :=
  ring_edges_1_l1 Sx yy f1 (0, sx0)
noncomputable def ring_Area_b1 (l1 : List (Int × Int)) (sum131 : Int) (x153 : (Int × Int) × (Int × Int)) : Option (Int ⊕ Empty) :=
  (ix l1 0).bind fun x168 => (exact_Cross x168 x153.1 x153.2).bind fun r169 => some (Sum.inl (ad sum131 r169))
noncomputable def ring_Area_b2 (sum131 : Int) : Option (Int) :=
  some sum131
noncomputable def ring_Area (l1 : List (Int × Int)) : Option (Int) :=
  (gd (!(decide ((l1.length : Int) < 3))) (exact_Right l1) false).bind fun r96 => (some ((decide ((l1.length : Int) < 3)) || (!r96))).bind fun x97 => if x97 then (some 0) else (rngO (ring_edges_1 (Int ⊕ Empty) (yb (fun (sr : Int) (xr : (Int × Int) × (Int × Int)) => ring_Area_b1 l1 sr xr)) (Sum.inl 0) l1) (fun (sr : Int) => ring_Area_b2 sr) (fun (e : Empty) => nomatch e))
noncomputable def exact_Turn (x1 : Int × Int) (b2 : Int × Int) (c3 : Int × Int) : Option (Int) :=
  (exact_Cross x1 b2 c3).bind fun r37 => if (decide (0 < r37)) then (some 1) else (if (decide (r37 < 0)) then (some (-1)) else (some 0))
noncomputable def exact_Less (x1 : Int × Int) (b2 : Int × Int) : Option (Bool) :=
  (some ((decide (x1.1 = b2.1)) && (decide (x1.2 < b2.2)))).bind fun x23 => some ((decide (x1.1 < b2.1)) || x23)
noncomputable def seg_line_k2 (x92 : Int × Int) (b94 : Int × Int) (c106 : Int × Int) (d108 : Int × Int) : Option (Int) :=
  (exact_Less b94 c106).bind fun r113 => (gd (!r113) (exact_Less d108 x92) false).bind fun r114 => if (r113 || r114) then (some 0) else ((some ((decide (b94 = c106)) || (decide (d108 = x92)))).bind fun x118 => if x118 then (some 1) else (some 4))
noncomputable def seg_line_k1 (c3 : Int × Int) (d4 : Int × Int) (x92 : Int × Int) (b94 : Int × Int) : Option (Int) :=
  (exact_Less d4 c3).bind fun r123 => if r123 then (seg_line_k2 x92 b94 d4 c3) else (seg_line_k2 x92 b94 c3 d4)
noncomputable def seg_line (x1 : Int × Int) (b2 : Int × Int) (c3 : Int × Int) (d4 : Int × Int) : Option (Int) :=
  (exact_Less b2 x1).bind fun r130 => if r130 then (seg_line_k1 c3 d4 b2 x1) else (seg_line_k1 c3 d4 x1 b2)
noncomputable def seg_Class_k2 (ends132 : Int) : Option (Int × Int) :=
  (ix [3, 2, 1] ends132).bind fun x135 => some (x135, 0)
noncomputable def seg_Class_k1 (r106 : Int) (r107 : Int) (ends125 : Int) : Option (Int × Int) :=
  if (decide ((ml r106 r107) = 0)) then (seg_Class_k2 (ad ends125 1)) else (seg_Class_k2 ends125)
noncomputable def seg_Class (x1 : Int × Int) (b2 : Int × Int) (c3 : Int × Int) (d4 : Int × Int) : Option (Int × Int) :=
  (exact_Right [x1, b2, c3, d4]).bind fun r90 => if (!r90) then (some (0, 5)) else ((some ((decide (x1 = b2)) || (decide (c3 = d4)))).bind fun x94 => if x94 then (some (0, 1)) else ((some ((decide (x1 = c3)) && (decide (b2 = d4)))).bind fun x98 => (some ((decide (x1 = d4)) && (decide (b2 = c3)))).bind fun x99 => if (x98 || x99) then (some (5, 0)) else ((exact_Turn x1 b2 c3).bind fun r103 => (exact_Turn x1 b2 d4).bind fun r104 => (exact_Turn c3 d4 x1).bind fun r106 => (exact_Turn c3 d4 b2).bind fun r107 => (some ((decide (r103 = 0)) && (decide (r104 = 0)))).bind fun x110 => if x110 then ((seg_line x1 b2 c3 d4).bind fun r113 => some (r113, 0)) else ((some ((decide (0 < (ml r103 r104))) || (decide (0 < (ml r106 r107))))).bind fun x116 => if x116 then (some (0, 0)) else (if (decide ((ml r103 r104) = 0)) then (seg_Class_k1 r106 r107 1) else (seg_Class_k1 r106 r107 0))))))
noncomputable def ring_Simple_k1 : Option (Bool) :=
  some false
noncomputable def ring_Simple_b4 (l1 : List (Int × Int)) (x1083 : Int) (k1194 : Int) : Option (Int ⊕ (Int ⊕ Bool)) :=
  if (decide (k1194 < (l1.length : Int))) then ((ix l1 x1083).bind fun x1224 => (rmK (ad x1083 1) (l1.length : Int)).bind fun x1225 => (ix l1 x1225).bind fun x1226 => (ix l1 k1194).bind fun x1227 => (rmK (ad k1194 1) (l1.length : Int)).bind fun x1228 => (ix l1 x1228).bind fun x1229 => (seg_Class x1224 x1226 x1227 x1229).bind fun r1230 => (some ((decide (x1083 = 0)) && (decide (k1194 = (sb (l1.length : Int) 1))))).bind fun x1232 => (some ((decide (k1194 = (ad x1083 1))) || x1232)).bind fun x1233 => (some ((!x1233) && (!decide (r1230.1 = 0)))).bind fun x1235 => (some ((x1233 && (!decide (r1230.1 = 1))) || x1235)).bind fun x1236 => if x1236 then (Option.map Sum.inr (Option.map Sum.inr ring_Simple_k1)) else (some (Sum.inl (ad k1194 1)))) else (Option.map Sum.inr (some (Sum.inl (ad x1083 1))))
noncomputable def ring_Simple_l4 (l1 : List (Int × Int)) (x1083 : Int) (s : Int) : Option (Int ⊕ Bool) := loopO (fun s => ring_Simple_b4 l1 x1083 s) s
noncomputable def ring_Simple_b3 (l1 : List (Int × Int)) (x1083 : Int) : Option (Int ⊕ Bool) :=
  if (decide (x1083 < (l1.length : Int))) then (ring_Simple_l4 l1 x1083 (ad x1083 1)) else (Option.map Sum.inr (some true))
noncomputable def ring_Simple_l3 (l1 : List (Int × Int)) (s : Int) : Option (Bool) := loopO (fun s => ring_Simple_b3 l1 s) s
noncomputable def ring_Simple_b2 (l1 : List (Int × Int)) (met967 : List ((Int × Int) × Bool)) (x968 : Int) : Option (((List ((Int × Int) × Bool)) × Int) ⊕ Bool) :=
  if (decide (x968 < (l1.length : Int))) then ((ix l1 x968).bind fun x994 => if (lkM met967 x994).getD false then (Option.map Sum.inr ring_Simple_k1) else ((some (upM met967 x994 true)).bind fun D1002 => some (Sum.inl (D1002, ad x968 1)))) else (Option.map Sum.inr (ring_Simple_l3 l1 0))
noncomputable def ring_Simple_l2 (l1 : List (Int × Int)) (s : (List ((Int × Int) × Bool)) × Int) : Option (Bool) := loopO (fun s => ring_Simple_b2 l1 s.1 s.2) s
noncomputable def ring_Simple (l1 : List (Int × Int)) : Option (Bool) :=
  (gd (!(decide ((l1.length : Int) < 3))) (exact_Right l1) false).bind fun r936 => (some ((decide ((l1.length : Int) < 3)) || (!r936))).bind fun x937 => if x937 then (some false) else (ring_Simple_l2 l1 (([] : List ((Int × Int) × Bool)), 0))
end Go.Proofs.Ythkmkmkcnljmaaa
