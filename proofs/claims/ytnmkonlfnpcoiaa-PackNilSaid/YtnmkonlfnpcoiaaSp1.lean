import Derived.Test.YtnmkonlfnpcoiaaPst
namespace Go.Proofs.Ytnmkonlfnpcoiaa
set_option linter.unusedVariables false
noncomputable def snap_level (z1 : Int) : Option (Bool) :=
  (some ((decide (0 ≤ z1)) && (decide (z1 ≤ 4)))).bind fun x15 => some x15
noncomputable def snap_Side (z1 : Int) : Option (Int × Bool) :=
  (snap_level z1).bind fun r21 => if (!r21) then (some (0, false)) else ((slK .i64 4096 z1).bind fun x25 => some (x25, true))
noncomputable def window_count (z1 : Int) : Option (Int) :=
  (snap_Side z1).bind fun r17 => (quK .i64 r17.1 4096).bind fun x19 => some x19
noncomputable def window_Right (t1 : Int × Int × Int) : Option (Bool) :=
  (window_count t1.1).bind fun r22 => (some ((decide (0 ≤ t1.2.1)) && (decide (t1.2.1 < r22)))).bind fun x24 => (some ((x24 && (decide (0 ≤ t1.2.2))) && (decide (t1.2.2 < r22)))).bind fun x25 => some x25
noncomputable def slices_Clone_pack_Entry_pack_Entry (s1 : List ((Int × Int × Int) × (List Int))) : Option (List ((Int × Int × Int) × (List Int))) :=
  (app ([] : List ((Int × Int × Int) × (List Int))) s1).bind fun x29 => some x29
noncomputable def exact_Less (x1 : Int × Int) (b2 : Int × Int) : Option (Bool) :=
  (some ((decide (x1.1 = b2.1)) && (decide (x1.2 < b2.2)))).bind fun x23 => some ((decide (x1.1 < b2.1)) || x23)
noncomputable def window_Less (x1 : Int × Int × Int) (b2 : Int × Int × Int) : Option (Bool) :=
  if (!decide (x1.1 = b2.1)) then (some (decide (x1.1 < b2.1))) else ((exact_Less x1.2 b2.2).bind fun r31 => some r31)
noncomputable def pack_packed_k3 (p581 : List ((Int × Int × Int) × Int)) (x587 : Int) (x676 : (Int × Int × Int) × (List Int)) (p707 : List (List Int)) (numbers711 : List (ByteArray × Int)) (n712 : Int) : Option (((List (List Int)) × (List ((Int × Int × Int) × Int)) × (List (ByteArray × Int)) × Int) ⊕ (((List Int) × (List (List Int)) × (List ((Int × Int × Int) × Int))) × Int)) :=
  (app p581 [(x676.1, n712)]).bind fun x725 => some (Sum.inl (p707, x725, numbers711, ad x587 1))
noncomputable def pack_packed_b2 (head1 : List Int) (r472 : List ((Int × Int × Int) × (List Int))) (p576 : List (List Int)) (p581 : List ((Int × Int × Int) × Int)) (numbers584 : List (ByteArray × Int)) (x587 : Int) : Option (((List (List Int)) × (List ((Int × Int × Int) × Int)) × (List (ByteArray × Int)) × Int) ⊕ (((List Int) × (List (List Int)) × (List ((Int × Int × Int) × Int))) × Int)) :=
  if (decide (x587 < (r472.length : Int))) then ((ix r472 x587).bind fun x676 => if (!((lkM numbers584 (bsS x676.2)).isSome)) then ((some (upM numbers584 (bsS x676.2) (p576.length : Int))).bind fun D734 => (app p576 [x676.2]).bind fun x746 => pack_packed_k3 p581 x587 x676 x746 D734 (p576.length : Int)) else (pack_packed_k3 p581 x587 x676 p576 numbers584 ((lkM numbers584 (bsS x676.2)).getD 0))) else (Option.map Sum.inr (some ((head1, p576, p581), 0)))
noncomputable def pack_packed_l2 (head1 : List Int) (r472 : List ((Int × Int × Int) × (List Int))) (s : (List (List Int)) × (List ((Int × Int × Int) × Int)) × (List (ByteArray × Int)) × Int) : Option (((List Int) × (List (List Int)) × (List ((Int × Int × Int) × Int))) × Int) := loopO (fun s => pack_packed_b2 head1 r472 s.1 s.2.1 s.2.2.1 s.2.2.2) s
noncomputable def pack_packed_b1 (head1 : List Int) (l2 : List ((Int × Int × Int) × (List Int))) (met416 : List ((Int × Int × Int) × Bool)) (x417 : Int) : Option (((List ((Int × Int × Int) × Bool)) × Int) ⊕ (((List Int) × (List (List Int)) × (List ((Int × Int × Int) × Int))) × Int)) :=
  if (decide (x417 < (l2.length : Int))) then ((ix l2 x417).bind fun x450 => (window_Right x450.1).bind fun r458 => if (!r458) then (Option.map Sum.inr none) else (if (lkM met416 x450.1).getD false then (Option.map Sum.inr none) else ((some (upM met416 x450.1 true)).bind fun D465 => some (Sum.inl (D465, ad x417 1))))) else (Option.map Sum.inr ((slices_Clone_pack_Entry_pack_Entry l2).bind fun r472 => (tiny r472).bind fun u481 => pack_packed_l2 head1 r472 (([] : List (List Int)), ([] : List ((Int × Int × Int) × Int)), ([] : List (ByteArray × Int)), 0)))
noncomputable def pack_packed_l1 (head1 : List Int) (l2 : List ((Int × Int × Int) × (List Int))) (s : (List ((Int × Int × Int) × Bool)) × Int) : Option (((List Int) × (List (List Int)) × (List ((Int × Int × Int) × Int))) × Int) := loopO (fun s => pack_packed_b1 head1 l2 s.1 s.2) s
noncomputable def pack_packed (head1 : List Int) (l2 : List ((Int × Int × Int) × (List Int))) : Option (((List Int) × (List (List Int)) × (List ((Int × Int × Int) × Int))) × Int) :=
  pack_packed_l1 head1 l2 (([] : List ((Int × Int × Int) × Bool)), 0)
noncomputable def varint_Bytes_b2_0 (x1248 : Int) (out1816 : List Int) (n1817 : Int) : Option ((((List Int) × Int)) ⊕ (((List Int) × Int) ⊕ (List Int))) :=
  if (decide (n1817 < 128)) then ((app out1816 [IntKind.u8.wrap n1817]).bind fun x1851 => Option.map Sum.inr (some (Sum.inl (x1851, ad x1248 1)))) else ((app out1816 [orK .u8 (IntKind.u8.wrap n1817) 128]).bind fun x1860 => (srK .u64 n1817 7).bind fun x1864 => some (Sum.inl (x1860, x1864)))
noncomputable def varint_Bytes_l2 (x1248 : Int) (s : ((List Int) × Int)) : Option (((List Int) × Int) ⊕ (List Int)) := loopO (fun s => varint_Bytes_b2_0 x1248 s.1 s.2) s
noncomputable def varint_Bytes_b1 (l1 : List Int) (out1246 : List Int) (x1248 : Int) : Option (((List Int) × Int) ⊕ (List Int)) :=
  if (decide (x1248 < (l1.length : Int))) then ((ix l1 x1248).bind fun x1790 => varint_Bytes_l2 x1248 (out1246, x1790)) else (Option.map Sum.inr (some out1246))
noncomputable def varint_Bytes_l1 (l1 : List Int) (s : (List Int) × Int) : Option (List Int) := loopO (fun s => varint_Bytes_b1 l1 s.1 s.2) s
noncomputable def varint_Bytes (l1 : List Int) : Option (List Int) :=
  varint_Bytes_l1 l1 (([] : List Int), 0)
noncomputable def pack_Write_1 (n1 : Int) (f1 : List Int) : Option (List Int) :=
  (varint_Bytes [IntKind.u64.wrap n1]).bind fun r51 => (app f1 r51).bind fun x54 => some x54
noncomputable def pack_Write_1_p1 (n1 : Int) (f1 : List Int) : Option (List Int) :=
  (varint_Bytes [IntKind.u64.wrap n1]).bind fun r44 => (apF f1 r44).bind fun x47 => some x47
noncomputable def pack_Write_2 (b1 : List Int) (f2 : List Int) : Option (List Int) :=
  (pack_Write_1_p1 (b1.length : Int) f2).bind fun r26 => (app r26 b1).bind fun x34 => some x34
noncomputable def pack_Write_2_p1 (b1 : List Int) (f2 : List Int) : Option (List Int) :=
  (pack_Write_1 (b1.length : Int) f2).bind fun r26 => (app r26 b1).bind fun x34 => some x34
noncomputable def pack_Write_b2 (r222 : ((List Int) × (List (List Int)) × (List ((Int × Int × Int) × Int))) × Int) (out362 : List Int) (x364 : Int) : Option (((List Int) × Int) ⊕ ((List Int) × Int)) :=
  if (decide (x364 < (r222.1.2.2.length : Int))) then ((ix r222.1.2.2 x364).bind fun x404 => (pack_Write_1 x404.1.1 out362).bind fun r409 => (pack_Write_1 x404.1.2.1 r409).bind fun r414 => (pack_Write_1 x404.1.2.2 r414).bind fun r419 => (pack_Write_1 x404.2 r419).bind fun r424 => some (Sum.inl (r424, ad x364 1))) else (Option.map Sum.inr (some (out362, 0)))
noncomputable def pack_Write_l2 (r222 : ((List Int) × (List (List Int)) × (List ((Int × Int × Int) × Int))) × Int) (s : (List Int) × Int) : Option ((List Int) × Int) := loopO (fun s => pack_Write_b2 r222 s.1 s.2) s
noncomputable def pack_Write_b1 (r222 : ((List Int) × (List (List Int)) × (List ((Int × Int × Int) × Int))) × Int) (out285 : List Int) (x287 : Int) : Option (((List Int) × Int) ⊕ ((List Int) × Int)) :=
  if (decide (x287 < (r222.1.2.1.length : Int))) then ((ix r222.1.2.1 x287).bind fun x310 => (pack_Write_2_p1 x310 out285).bind fun r313 => some (Sum.inl (r313, ad x287 1))) else (Option.map Sum.inr ((pack_Write_1 (r222.1.2.2.length : Int) out285).bind fun r319 => pack_Write_l2 r222 (r319, 0)))
noncomputable def pack_Write_l1 (r222 : ((List Int) × (List (List Int)) × (List ((Int × Int × Int) × Int))) × Int) (s : (List Int) × Int) : Option ((List Int) × Int) := loopO (fun s => pack_Write_b1 r222 s.1 s.2) s
noncomputable def pack_Write (head1 : List Int) (l2 : List ((Int × Int × Int) × (List Int))) : Option ((List Int) × Int) :=
  (pack_packed head1 l2).bind fun r222 => if (!decide (r222.2 = 0)) then (some (([] : List Int), r222.2)) else ((pack_Write_2 r222.1.1 [71, 82, 84, 49]).bind fun r251 => (pack_Write_1 (r222.1.2.1.length : Int) r251).bind fun r256 => pack_Write_l1 r222 (r256, 0))
end Go.Proofs.Ytnmkonlfnpcoiaa
