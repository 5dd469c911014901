import Derived.Test.YtopnbammdeimcaaPst
namespace Go.Proofs.Ytopnbammdeimcaa
set_option linter.unusedVariables false
noncomputable def law03_Cut (l1 : List (Int × Int)) : Option (List (Int × Int)) :=
  (cut l1 0 (mn (l1.length : Int) 40)).bind fun x17 => some x17
noncomputable def exact_within (n1 : Int) (least2 : Int) (greatest3 : Int) : Option (Bool) :=
  (some ((decide (least2 ≤ n1)) && (decide (n1 ≤ greatest3)))).bind fun x15 => some x15
noncomputable def exact_Right_b1 (l1 : List (Int × Int)) (x90 : Int) : Option (Int ⊕ Bool) :=
  if (decide (x90 < (l1.length : Int))) then ((ix l1 x90).bind fun x115 => (exact_within x115.1 (-16777216) 16777216).bind fun r120 => (gd (!(!r120)) (exact_within x115.2 (-16777216) 16777216) false).bind fun r121 => if ((!r120) || (!r121)) then (Option.map Sum.inr (some false)) else (some (Sum.inl (ad x90 1)))) else (Option.map Sum.inr (some true))
noncomputable def exact_Right_l1 (l1 : List (Int × Int)) (s : Int) : Option (Bool) := loopO (fun s => exact_Right_b1 l1 s) s
noncomputable def exact_Right (l1 : List (Int × Int)) : Option (Bool) :=
  exact_Right_l1 l1 0
noncomputable def exact_Floor_k1 (q66 : Int) : Option (Int × Bool) :=
  some (q66, true)
noncomputable def exact_Floor (n1 : Int) (d2 : Int) : Option (Int × Bool) :=
  (exact_within d2 1 1152921504606846976).bind fun r73 => (gd (!(!r73)) (exact_within n1 (-1152921504606846976) 1152921504606846976) false).bind fun r74 => if ((!r73) || (!r74)) then (some (0, false)) else ((quK .i64 n1 d2).bind fun x78 => (rmK n1 d2).bind fun x81 => if (decide (0 ≤ x81)) then (exact_Floor_k1 x78) else (some (sb x78 1, true)))
noncomputable def exact_Round_k1 (q42 : Int) : Option (Int × Bool) :=
  some (q42, true)
noncomputable def exact_Round (n1 : Int) (d2 : Int) : Option (Int × Bool) :=
  (exact_Floor n1 d2).bind fun r31 => if (!r31.2) then (some (0, false)) else (if (decide ((sb d2 (sb n1 (ml r31.1 d2))) ≤ (sb n1 (ml r31.1 d2)))) then (exact_Round_k1 (ad r31.1 1)) else (exact_Round_k1 r31.1))
noncomputable def seg_AtX_k1 (c3 : Int) (x60 : Int × Int) (b62 : Int × Int) : Option (Int × Bool) :=
  (exact_Right [x60, b62]).bind fun r68 => (some (((!r68) || (decide (c3 ≤ x60.1))) || (decide (b62.1 ≤ c3)))).bind fun x69 => if x69 then (some (0, false)) else ((some (ad (ml x60.2 (sb b62.1 x60.1)) (ml (sb b62.2 x60.2) (sb c3 x60.1)))).bind fun x74 => (exact_Round x74 (sb b62.1 x60.1)).bind fun r75 => some (r75.1, r75.2))
noncomputable def seg_AtX (x1 : Int × Int) (b2 : Int × Int) (c3 : Int) : Option (Int × Bool) :=
  if (decide (b2.1 < x1.1)) then (seg_AtX_k1 c3 b2 x1) else (seg_AtX_k1 c3 x1 b2)
noncomputable def seg_flip (p1 : Int × Int) : Option (Int × Int) :=
  some (p1.2, p1.1)
noncomputable def seg_AtY (x1 : Int × Int) (b2 : Int × Int) (c3 : Int) : Option (Int × Bool) :=
  (seg_flip x1).bind fun r25 => (seg_flip b2).bind fun r26 => (seg_AtX r25 r26 c3).bind fun r27 => some (r27.1, r27.2)
noncomputable def polyclip_cut (x1 : Int × Int) (b2 : Int × Int) (c3 : Int) (y4 : Bool) : Option ((Int × Int) × Bool) :=
  if y4 then ((seg_AtY x1 b2 c3).bind fun r39 => some ((r39.1, c3), r39.2)) else ((seg_AtX x1 b2 c3).bind fun r43 => some ((c3, r43.1), r43.2))
noncomputable def polyclip_Half_1_k1 (f2 : Int) (f3 : Bool) (n42 : Int) : Option (Int) :=
  if (decide (n42 = f2)) then (some 0) else (if ((decide (f2 < n42)) == f3) then (some 1) else (some (-1)))
noncomputable def polyclip_Half_1 (p1 : Int × Int) (f1 : Bool) (f2 : Int) (f3 : Bool) : Option (Int) :=
  if f1 then (polyclip_Half_1_k1 f2 f3 p1.2) else (polyclip_Half_1_k1 f2 f3 p1.1)
noncomputable def polyclip_Half_k2 (x1074 : Int) (out1531 : List (Int × Int)) : Option (((List (Int × Int)) × Int) ⊕ (List (Int × Int))) :=
  some (Sum.inl (out1531, ad x1074 1))
noncomputable def polyclip_Half_k3 (c2 : Int) (up3 : Bool) (y4 : Bool) (x1074 : Int) (x1536 : Int × Int) (x1542 : Int × Int) (out1561 : List (Int × Int)) : Option (((List (Int × Int)) × Int) ⊕ (List (Int × Int))) :=
  (polyclip_Half_1 x1536 y4 c2 up3).bind fun r1566 => (polyclip_Half_1 x1542 y4 c2 up3).bind fun r1567 => if (decide (0 ≤ (ml r1566 r1567))) then (polyclip_Half_k2 x1074 out1561) else ((polyclip_cut x1536 x1542 c2 y4).bind fun r1570 => if r1570.2 then ((app out1561 [r1570.1]).bind fun x1581 => polyclip_Half_k2 x1074 x1581) else (polyclip_Half_k2 x1074 out1561))
noncomputable def polyclip_Half_b1 (l1 : List (Int × Int)) (c2 : Int) (up3 : Bool) (y4 : Bool) (out1072 : List (Int × Int)) (x1074 : Int) : Option (((List (Int × Int)) × Int) ⊕ (List (Int × Int))) :=
  if (decide (x1074 < (l1.length : Int))) then ((ix l1 x1074).bind fun x1536 => (rmK (ad x1074 1) (l1.length : Int)).bind fun x1541 => (ix l1 x1541).bind fun x1542 => (polyclip_Half_1 x1536 y4 c2 up3).bind fun r1585 => if (decide (0 ≤ r1585)) then ((app out1072 [x1536]).bind fun x1592 => polyclip_Half_k3 c2 up3 y4 x1074 x1536 x1542 x1592) else (polyclip_Half_k3 c2 up3 y4 x1074 x1536 x1542 out1072)) else (Option.map Sum.inr (some out1072))
noncomputable def polyclip_Half_l1 (l1 : List (Int × Int)) (c2 : Int) (up3 : Bool) (y4 : Bool) (s : (List (Int × Int)) × Int) : Option (List (Int × Int)) := loopO (fun s => polyclip_Half_b1 l1 c2 up3 y4 s.1 s.2) s
noncomputable def polyclip_Half (l1 : List (Int × Int)) (c2 : Int) (up3 : Bool) (y4 : Bool) : Option (List (Int × Int)) :=
  polyclip_Half_l1 l1 c2 up3 y4 (([] : List (Int × Int)), 0)
noncomputable def ring_edges (l1 : List (Int × Int)) : Option (Unit) :=
  some ()
noncomputable def exact_Cross (x1 : Int × Int) (b2 : Int × Int) (c3 : Int × Int) : Option (Int) :=
  (exact_Right [x1, b2, c3]).bind fun r37 => if (!r37) then (some 0) else ((some (sb (ml (sb b2.1 x1.1) (sb c3.2 x1.2)) (ml (sb b2.2 x1.2) (sb c3.1 x1.1)))).bind fun x41 => some x41)
noncomputable def ring_edges_1_b1 (Sx : Type) (yy : Sx → ((Int × Int) × (Int × Int)) → Option (Bool × Sx)) (f1 : List (Int × Int)) (x100 : Int) (sx101 : Sx) : Option ((Int × Sx) ⊕ Sx) :=
  if (decide (x100 < (f1.length : Int))) then ((ix f1 x100).bind fun x130 => (rmK (ad x100 1) (f1.length : Int)).bind fun x137 => (ix f1 x137).bind fun x138 => (yy sx101 (x130, x138)).bind fun z139 => if (!z139.1) then (Option.map Sum.inr (some z139.2)) else (some (Sum.inl (ad x100 1, z139.2)))) else (Option.map Sum.inr (some sx101))
noncomputable def ring_edges_1_l1 (Sx : Type) (yy : Sx → ((Int × Int) × (Int × Int)) → Option (Bool × Sx)) (f1 : List (Int × Int)) (s : Int × Sx) : Option (Sx) := loopO (fun s => ring_edges_1_b1 Sx yy f1 s.1 s.2) s
noncomputable def ring_edges_1 (Sx : Type) (yy : Sx → ((Int × Int) × (Int × Int)) → Option (Bool × Sx)) (sx0 : Sx) (f1 : List (Int × Int)) : Option (Sx) :=
  ring_edges_1_l1 Sx yy f1 (0, sx0)
noncomputable def ring_Area_b1 (l1 : List (Int × Int)) (sum131 : Int) (x153 : (Int × Int) × (Int × Int)) : Option (Int ⊕ Empty) :=
  (ix l1 0).bind fun x168 => (exact_Cross x168 x153.1 x153.2).bind fun r169 => some (Sum.inl (ad sum131 r169))
noncomputable def ring_Area_b2 (sum131 : Int) : Option (Int) :=
  some sum131
noncomputable def ring_Area (l1 : List (Int × Int)) : Option (Int) :=
  (gd (!(decide ((l1.length : Int) < 3))) (exact_Right l1) false).bind fun r96 => (some ((decide ((l1.length : Int) < 3)) || (!r96))).bind fun x97 => if x97 then (some 0) else (rngO (ring_edges_1 (Int ⊕ Empty) (yb (fun (sr : Int) (xr : (Int × Int) × (Int × Int)) => ring_Area_b1 l1 sr xr)) (Sum.inl 0) l1) (fun (sr : Int) => ring_Area_b2 sr) (fun (e : Empty) => nomatch e))
end Go.Proofs.Ytopnbammdeimcaa
