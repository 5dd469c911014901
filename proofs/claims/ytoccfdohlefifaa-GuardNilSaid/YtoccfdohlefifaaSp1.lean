import Derived.Test.YtoccfdohlefifaaPre
namespace Go.Proofs.Ytoccfdohlefifaa
set_option linter.unusedVariables false
noncomputable def exact_within (n1 : Int) (least2 : Int) (greatest3 : Int) : Option (Bool) :=
  (some ((decide (least2 ≤ n1)) && (decide (n1 ≤ greatest3)))).bind fun x15 => some x15
noncomputable def exact_Right_b1 (l1 : List (Int × Int)) (x90 : Int) : Option (Int ⊕ Bool) :=
  if (decide (x90 < (l1.length : Int))) then ((ix l1 x90).bind fun x115 => (exact_within x115.1 (-16777216) 16777216).bind fun r120 => (gd (!(!r120)) (exact_within x115.2 (-16777216) 16777216) false).bind fun r121 => if ((!r120) || (!r121)) then (Option.map Sum.inr (some false)) else (some (Sum.inl (ad x90 1)))) else (Option.map Sum.inr (some true))
noncomputable def exact_Right_l1 (l1 : List (Int × Int)) (s : Int) : Option (Bool) := loopO (fun s => exact_Right_b1 l1 s) s
noncomputable def exact_Right (l1 : List (Int × Int)) : Option (Bool) :=
  exact_Right_l1 l1 0
noncomputable def rows_Right (b1 : (Int × Int) × (Int × Int)) : Option (Bool) :=
  (exact_Right [b1.1, b1.2]).bind fun r24 => (some ((r24 && (decide (b1.1.1 ≤ b1.2.1))) && (decide (b1.1.2 ≤ b1.2.2)))).bind fun x25 => some x25
noncomputable def rows_great (b1 : (Int × Int) × (Int × Int)) : Option (Bool) :=
  (srK .i64 b1.2.1 8).bind fun x23 => (srK .i64 b1.1.1 8).bind fun x24 => (srK .i64 b1.2.2 8).bind fun x25 => (srK .i64 b1.1.2 8).bind fun x26 => (some (ml (ad (sb x23 x24) 1) (ad (sb x25 x26) 1))).bind fun x27 => some (decide (64 < x27))
noncomputable def rows_fields (b1 : (Int × Int) × (Int × Int)) : Option (Unit) :=
  some ()
noncomputable def rows_fields_1_b2 (Sx : Type) (yy : Sx → ((Int × Int)) → Option (Bool × Sx)) (f1 : (Int × Int) × (Int × Int)) (i226 : Int) (k303 : Int) (sx304 : Sx) : Option ((Int × Sx) ⊕ ((Int × Sx) ⊕ Sx)) :=
  (srK .i64 f1.2.2 8).bind fun x321 => if (decide (k303 ≤ x321)) then ((yy sx304 (i226, k303)).bind fun z326 => if (!z326.1) then (Option.map Sum.inr (Option.map Sum.inr (some z326.2))) else (some (Sum.inl (ad k303 1, z326.2)))) else (Option.map Sum.inr (some (Sum.inl (ad i226 1, sx304))))
noncomputable def rows_fields_1_l2 (Sx : Type) (yy : Sx → ((Int × Int)) → Option (Bool × Sx)) (f1 : (Int × Int) × (Int × Int)) (i226 : Int) (s : Int × Sx) : Option ((Int × Sx) ⊕ Sx) := loopO (fun s => rows_fields_1_b2 Sx yy f1 i226 s.1 s.2) s
noncomputable def rows_fields_1_b1 (Sx : Type) (yy : Sx → ((Int × Int)) → Option (Bool × Sx)) (f1 : (Int × Int) × (Int × Int)) (i226 : Int) (sx227 : Sx) : Option ((Int × Sx) ⊕ Sx) :=
  (srK .i64 f1.2.1 8).bind fun x283 => if (decide (i226 ≤ x283)) then ((srK .i64 f1.1.2 8).bind fun x288 => rows_fields_1_l2 Sx yy f1 i226 (x288, sx227)) else (Option.map Sum.inr (some sx227))
noncomputable def rows_fields_1_l1 (Sx : Type) (yy : Sx → ((Int × Int)) → Option (Bool × Sx)) (f1 : (Int × Int) × (Int × Int)) (s : Int × Sx) : Option (Sx) := loopO (fun s => rows_fields_1_b1 Sx yy f1 s.1 s.2) s
noncomputable def rows_fields_1 (Sx : Type) (yy : Sx → ((Int × Int)) → Option (Bool × Sx)) (sx0 : Sx) (f1 : (Int × Int) × (Int × Int)) : Option (Sx) :=
  (srK .i64 f1.1.1 8).bind fun x172 => rows_fields_1_l1 Sx yy f1 (x172, sx0)
noncomputable def rows_Index_Add_k2 (x3593 : Int) (x5162 : List ((Int × Int) × (Int × Int))) (x5262 : List ((Int × Int) × (List Int))) (x5265 : List Int) : Option (((List ((Int × Int) × (Int × Int))) × (List ((Int × Int) × (List Int))) × (List Int) × Int) ⊕ (Int × ((List ((Int × Int) × (Int × Int))) × (List ((Int × Int) × (List Int))) × (List Int)))) :=
  some (Sum.inl (x5162, x5262, x5265, ad x3593 1))
noncomputable def rows_Index_Add_b3 (x3586 : List ((Int × Int) × (Int × Int))) (x5316 : List ((Int × Int) × (List Int))) (x5341 : (Int × Int)) : Option ((List ((Int × Int) × (List Int))) ⊕ Empty) :=
  (app ((lkM x5316 x5341).getD []) [(x3586.length : Int)]).bind fun x5357 => (some (upM x5316 x5341 x5357)).bind fun D5360 => some (Sum.inl D5360)
noncomputable def rows_Index_Add_b4 (x3591 : List Int) (x3593 : Int) (x5162 : List ((Int × Int) × (Int × Int))) (x5316 : List ((Int × Int) × (List Int))) : Option (((List ((Int × Int) × (Int × Int))) × (List ((Int × Int) × (List Int))) × (List Int) × Int) ⊕ (Int × ((List ((Int × Int) × (Int × Int))) × (List ((Int × Int) × (List Int))) × (List Int)))) :=
  rows_Index_Add_k2 x3593 x5162 x5316 x3591
noncomputable def rows_Index_Add_b1 (l2 : List ((Int × Int) × (Int × Int))) (x3586 : List ((Int × Int) × (Int × Int))) (x3588 : List ((Int × Int) × (List Int))) (x3591 : List Int) (x3593 : Int) : Option (((List ((Int × Int) × (Int × Int))) × (List ((Int × Int) × (List Int))) × (List Int) × Int) ⊕ (Int × ((List ((Int × Int) × (Int × Int))) × (List ((Int × Int) × (List Int))) × (List Int)))) :=
  if (decide (x3593 < (l2.length : Int))) then ((ix l2 x3593).bind fun x5144 => (app x3586 [x5144]).bind fun x5162 => (rows_Right x5144).bind fun r5271 => if (!r5271) then (rows_Index_Add_k2 x3593 x5162 x3588 x3591) else ((rows_great x5144).bind fun r5274 => if r5274 then ((app x3591 [(x3586.length : Int)]).bind fun x5286 => rows_Index_Add_k2 x3593 x5162 x3588 x5286) else (rngO (rows_fields_1 ((List ((Int × Int) × (List Int))) ⊕ Empty) (yb (fun (sr : List ((Int × Int) × (List Int))) (xr : (Int × Int)) => rows_Index_Add_b3 x3586 sr xr)) (Sum.inl x3588) x5144) (fun (sr : List ((Int × Int) × (List Int))) => rows_Index_Add_b4 x3591 x3593 x5162 sr) (fun (e : Empty) => nomatch e)))) else (Option.map Sum.inr (some ((x3586.length : Int), (x3586, x3588, x3591))))
noncomputable def rows_Index_Add_l1 (l2 : List ((Int × Int) × (Int × Int))) (s : (List ((Int × Int) × (Int × Int))) × (List ((Int × Int) × (List Int))) × (List Int) × Int) : Option (Int × ((List ((Int × Int) × (Int × Int))) × (List ((Int × Int) × (List Int))) × (List Int))) := loopO (fun s => rows_Index_Add_b1 l2 s.1 s.2.1 s.2.2.1 s.2.2.2) s
noncomputable def rows_Index_Add (x1 : (List ((Int × Int) × (Int × Int))) × (List ((Int × Int) × (List Int))) × (List Int)) (l2 : List ((Int × Int) × (Int × Int))) : Option (Int × ((List ((Int × Int) × (Int × Int))) × (List ((Int × Int) × (List Int))) × (List Int))) :=
  rows_Index_Add_l1 l2 (x1.1, x1.2.1, x1.2.2, 0)
noncomputable def rows_New (l1 : List ((Int × Int) × (Int × Int))) : Option ((List ((Int × Int) × (Int × Int))) × (List ((Int × Int) × (List Int))) × (List Int)) :=
  (rows_Index_Add (([] : List ((Int × Int) × (Int × Int))), ([] : List ((Int × Int) × (List Int))), ([] : List Int)) l1).bind fun r35 => some r35.2
noncomputable def exact_Less (x1 : Int × Int) (b2 : Int × Int) : Option (Bool) :=
  (some ((decide (x1.1 = b2.1)) && (decide (x1.2 < b2.2)))).bind fun x23 => some ((decide (x1.1 < b2.1)) || x23)
end Go.Proofs.Ytoccfdohlefifaa
