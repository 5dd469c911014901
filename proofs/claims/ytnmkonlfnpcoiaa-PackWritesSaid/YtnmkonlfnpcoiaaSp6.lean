import Derived.Test.YtnmkonlfnpcoiaaSp5
namespace Go.Proofs.Ytnmkonlfnpcoiaa
set_option linter.unusedVariables false
noncomputable def pack_Pack_Blobs (p1 : (List Int) × (List (List Int)) × (List ((Int × Int × Int) × Int))) : Option (Int) :=
  some (p1.2.1.length : Int)
noncomputable def pack_Pack_Len (p1 : (List Int) × (List (List Int)) × (List ((Int × Int × Int) × Int))) : Option (Int) :=
  some (p1.2.2.length : Int)
noncomputable def pack_Pack_Len_nil : Option (Int) :=
  some 0
noncomputable def law27_known : Option (Bool) :=
  (pack_Write ([] : List Int) ([] : List ((Int × Int × Int) × (List Int)))).bind fun r67 => (pack_Write ([] : List Int) [((0, 0, 0), [7])]).bind fun r75 => rngO (pack_Open r75.1) (fun r79 => (some ((decide (r67.2 = 0)) && (decide (r75.2 = 0)))).bind fun x105 => (gd (x105 && (decide (r79.2 = 0))) (ref07_Same r67.1 [71, 82, 84, 49, 0, 0, 0]) false).bind fun r110 => (some ((x105 && (decide (r79.2 = 0))) && r110)).bind fun x111 => (gd x111 (ref07_Same r75.1 [71, 82, 84, 49, 0, 1, 1, 7, 1, 0, 0, 0, 0]) false).bind fun r116 => (gd (x111 && r116) (pack_Pack_Len r79.1) 0).bind fun r117 => (some ((x111 && r116) && (decide (r117 = 1)))).bind fun x118 => (gd x118 (pack_Pack_Blobs r79.1) 0).bind fun r119 => some (x118 && (decide (r119 = 1)))) (fun n89 => (some ((decide (r67.2 = 0)) && (decide (r75.2 = 0)))).bind fun x91 => (gd (x91 && (decide (n89.2 = 0))) (ref07_Same r67.1 [71, 82, 84, 49, 0, 0, 0]) false).bind fun r96 => (some ((x91 && (decide (n89.2 = 0))) && r96)).bind fun x97 => (gd x97 (ref07_Same r75.1 [71, 82, 84, 49, 0, 1, 1, 7, 1, 0, 0, 0, 0]) false).bind fun r102 => some false)
noncomputable def ref16_Level (z1 : Int) : Option (Bool) :=
  (some ((decide (0 ≤ z1)) && (decide (z1 ≤ 4)))).bind fun x15 => some x15
noncomputable def ref01_Power_b1 (s1 : Int) (n57 : Int) (i58 : Int) : Option ((Int × Int) ⊕ Int) :=
  if (decide (i58 < s1)) then (some (Sum.inl (ml 2 n57, ad i58 1))) else (Option.map Sum.inr (some n57))
noncomputable def ref01_Power_l1 (s1 : Int) (s : Int × Int) : Option (Int) := loopO (fun s => ref01_Power_b1 s1 s.1 s.2) s
noncomputable def ref01_Power (s1 : Int) : Option (Int) :=
  ref01_Power_l1 s1 (1, 0)
noncomputable def ref20_Right (t1 : Int × Int × Int) : Option (Bool) :=
  (ref16_Level t1.1).bind fun r23 => (gd (r23 && (decide (0 ≤ t1.2.1))) (ref01_Power t1.1) 0).bind fun r24 => (some ((r23 && (decide (0 ≤ t1.2.1))) && (decide (t1.2.1 < r24)))).bind fun x25 => (gd (x25 && (decide (0 ≤ t1.2.2))) (ref01_Power t1.1) 0).bind fun r26 => (some ((x25 && (decide (0 ≤ t1.2.2))) && (decide (t1.2.2 < r26)))).bind fun x27 => some x27
noncomputable def ref20_Less (x1 : Int × Int × Int) (b2 : Int × Int × Int) : Option (Bool) :=
  if (!decide (x1.1 = b2.1)) then (some (decide (x1.1 < b2.1))) else (if (!decide (x1.2.1 = b2.2.1)) then (some (decide (x1.2.1 < b2.2.1))) else (some (decide (x1.2.2 < b2.2.2))))
noncomputable def ref27_place_b1 (l1 : List ByteArray) (s2 : ByteArray) (n54 : Int) : Option (Int ⊕ Int) :=
  (gd (decide (n54 < (l1.length : Int))) (ix l1 n54) ByteArray.empty).bind fun x66 => (some ((decide (n54 < (l1.length : Int))) && (!eqS x66 s2))).bind fun x67 => if x67 then (some (Sum.inl (ad n54 1))) else (Option.map Sum.inr (some n54))
noncomputable def ref27_place_l1 (l1 : List ByteArray) (s2 : ByteArray) (s : Int) : Option (Int) := loopO (fun s => ref27_place_b1 l1 s2 s) s
noncomputable def ref27_place (l1 : List ByteArray) (s2 : ByteArray) : Option (Int) :=
  ref27_place_l1 l1 s2 0
noncomputable def ref27_Blobs_k2 (i324 : Int) (out459 : List ByteArray) : Option (((List ByteArray) × Int) ⊕ (List ByteArray)) :=
  some (Sum.inl (out459, ad i324 1))
noncomputable def ref27_Blobs_b1 (p1 : ByteArray × (List ((Int × Int × Int) × ByteArray))) (out322 : List ByteArray) (i324 : Int) : Option (((List ByteArray) × Int) ⊕ (List ByteArray)) :=
  if (decide (i324 < (p1.2.length : Int))) then ((ix p1.2 i324).bind fun x464 => (ref27_place out322 x464.2).bind fun r465 => if (decide (r465 = (out322.length : Int))) then ((ix p1.2 i324).bind fun x471 => (app out322 [x471.2]).bind fun x474 => ref27_Blobs_k2 i324 x474) else (ref27_Blobs_k2 i324 out322)) else (Option.map Sum.inr (some out322))
noncomputable def ref27_Blobs_l1 (p1 : ByteArray × (List ((Int × Int × Int) × ByteArray))) (s : (List ByteArray) × Int) : Option (List ByteArray) := loopO (fun s => ref27_Blobs_b1 p1 s.1 s.2) s
noncomputable def ref27_Blobs (p1 : ByteArray × (List ((Int × Int × Int) × ByteArray))) : Option (List ByteArray) :=
  ref27_Blobs_l1 p1 (([] : List ByteArray), 0)
noncomputable def pack_Pack_Head (p1 : (List Int) × (List (List Int)) × (List ((Int × Int × Int) × Int))) : Option (List Int) :=
  (bytes_Clone p1.1).bind fun r21 => some r21
noncomputable def pack_Pack_Entries_b1 (p1 : (List Int) × (List (List Int)) × (List ((Int × Int × Int) × Int))) (out143 : List ((Int × Int × Int) × (List Int))) (x146 : Int) : Option (((List ((Int × Int × Int) × (List Int))) × Int) ⊕ (List ((Int × Int × Int) × (List Int)))) :=
  if (decide (x146 < (p1.2.2.length : Int))) then ((ix p1.2.2 x146).bind fun x184 => (ix p1.2.1 x184.2).bind fun x196 => (bytes_Clone x196).bind fun r198 => (app out143 [(x184.1, r198)]).bind fun x203 => some (Sum.inl (x203, ad x146 1))) else (Option.map Sum.inr (some out143))
noncomputable def pack_Pack_Entries_l1 (p1 : (List Int) × (List (List Int)) × (List ((Int × Int × Int) × Int))) (s : (List ((Int × Int × Int) × (List Int))) × Int) : Option (List ((Int × Int × Int) × (List Int))) := loopO (fun s => pack_Pack_Entries_b1 p1 s.1 s.2) s
noncomputable def pack_Pack_Entries (p1 : (List Int) × (List (List Int)) × (List ((Int × Int × Int) × Int))) : Option (List ((Int × Int × Int) × (List Int))) :=
  pack_Pack_Entries_l1 p1 (([] : List ((Int × Int × Int) × (List Int))), 0)
noncomputable def pack_Pack_Get_1 (i1 : Int) (f1 : (List Int) × (List (List Int)) × (List ((Int × Int × Int) × Int))) (f2 : Int × Int × Int) : Option (Bool) :=
  (ix f1.2.2 i1).bind fun x16 => (window_Less x16.1 f2).bind fun r17 => some (!r17)
noncomputable def sort_Search_Get_1_k2 (i153 : Int) (j154 : Int) : Option ((Int × Int) ⊕ Int) :=
  some (Sum.inl (i153, j154))
noncomputable def sort_Search_Get_1_b1 (f2_0 : (List Int) × (List (List Int)) × (List ((Int × Int × Int) × Int))) (f2_1 : Int × Int × Int) (i115 : Int) (j116 : Int) : Option ((Int × Int) ⊕ Int) :=
  if (decide (i115 < j116)) then ((srK .u64 (IntKind.u64.wrap (ad i115 j116)) 1).bind fun x157 => (pack_Pack_Get_1 (IntKind.i64.wrap x157) f2_0 f2_1).bind fun r159 => if (!r159) then (sort_Search_Get_1_k2 (ad (IntKind.i64.wrap x157) 1) j116) else (sort_Search_Get_1_k2 i115 (IntKind.i64.wrap x157))) else (Option.map Sum.inr (some i115))
noncomputable def sort_Search_Get_1_l1 (f2_0 : (List Int) × (List (List Int)) × (List ((Int × Int × Int) × Int))) (f2_1 : Int × Int × Int) (s : Int × Int) : Option (Int) := loopO (fun s => sort_Search_Get_1_b1 f2_0 f2_1 s.1 s.2) s
noncomputable def sort_Search_Get_1 (n1 : Int) (f2_0 : (List Int) × (List (List Int)) × (List ((Int × Int × Int) × Int))) (f2_1 : Int × Int × Int) : Option (Int) :=
  sort_Search_Get_1_l1 f2_0 f2_1 (0, n1)
noncomputable def pack_Pack_Get (p1 : (List Int) × (List (List Int)) × (List ((Int × Int × Int) × Int))) (t2 : Int × Int × Int) : Option ((List Int) × Bool) :=
  (sort_Search_Get_1 (p1.2.2.length : Int) p1 t2).bind fun r40 => (gd (!(decide (r40 = (p1.2.2.length : Int)))) (ix p1.2.2 r40) ((0, 0, 0), 0)).bind fun x43 => (some ((decide (r40 = (p1.2.2.length : Int))) || (!decide (x43.1 = t2)))).bind fun x44 => if x44 then (some (([] : List Int), false)) else ((ix p1.2.2 r40).bind fun x48 => (ix p1.2.1 x48.2).bind fun x49 => (bytes_Clone x49).bind fun r51 => some (r51, true))
noncomputable def law27_alike_k2 (p1 : (List Int) × (List (List Int)) × (List ((Int × Int × Int) × Int))) (x2 : ByteArray × (List ((Int × Int × Int) × ByteArray))) (r185 : List ((Int × Int × Int) × (List Int))) (i259 : Int) (want327 : ByteArray) (has328 : Bool) : Option ((ByteArray × Bool × Int) ⊕ Bool) :=
  (ix r185 i259).bind fun x331 => (pack_Pack_Get p1 x331.1).bind fun r332 => (gd (!(!r332.2)) (ix x2.2 i259) ((0, 0, 0), ByteArray.empty)).bind fun x336 => (some ((!r332.2) || (!eqS (bsS r332.1) x336.2))).bind fun x337 => if x337 then (Option.map Sum.inr (some false)) else (some (Sum.inl (want327, has328, ad i259 1)))
noncomputable def law27_alike_b1 (p1 : (List Int) × (List (List Int)) × (List ((Int × Int × Int) × Int))) (x2 : ByteArray × (List ((Int × Int × Int) × ByteArray))) (t3 : Int × Int × Int) (r185 : List ((Int × Int × Int) × (List Int))) (r190 : (List Int) × Bool) (want257 : ByteArray) (has258 : Bool) (i259 : Int) : Option ((ByteArray × Bool × Int) ⊕ Bool) :=
  if (decide (i259 < (r185.length : Int))) then ((ix r185 i259).bind fun x311 => (ix x2.2 i259).bind fun x312 => (gd (!(!decide (x311.1 = x312.1))) (ix r185 i259) ((0, 0, 0), [])).bind fun x313 => (gd (!(!decide (x311.1 = x312.1))) (ix x2.2 i259) ((0, 0, 0), ByteArray.empty)).bind fun x315 => (some ((!decide (x311.1 = x312.1)) || (!eqS (bsS x313.2) x315.2))).bind fun x316 => if x316 then (Option.map Sum.inr (some false)) else ((ix x2.2 i259).bind fun x342 => if (decide (x342.1 = t3)) then ((ix x2.2 i259).bind fun x345 => law27_alike_k2 p1 x2 r185 i259 x345.2 true) else (law27_alike_k2 p1 x2 r185 i259 want257 has258))) else (Option.map Sum.inr ((some ((eqS (bsS r190.1) want257) && (r190.2 == has258))).bind fun x347 => some x347))
noncomputable def law27_alike_l1 (p1 : (List Int) × (List (List Int)) × (List ((Int × Int × Int) × Int))) (x2 : ByteArray × (List ((Int × Int × Int) × ByteArray))) (t3 : Int × Int × Int) (r185 : List ((Int × Int × Int) × (List Int))) (r190 : (List Int) × Bool) (s : ByteArray × Bool × Int) : Option (Bool) := loopO (fun s => law27_alike_b1 p1 x2 t3 r185 r190 s.1 s.2.1 s.2.2) s
noncomputable def law27_alike (p1 : (List Int) × (List (List Int)) × (List ((Int × Int × Int) × Int))) (x2 : ByteArray × (List ((Int × Int × Int) × ByteArray))) (t3 : Int × Int × Int) : Option (Bool) :=
  (pack_Pack_Entries p1).bind fun r185 => (pack_Pack_Get p1 t3).bind fun r190 => (gd (!(!decide ((r185.length : Int) = (x2.2.length : Int)))) (pack_Pack_Len p1) 0).bind fun r196 => (some ((!decide ((r185.length : Int) = (x2.2.length : Int))) || (!decide (r196 = (x2.2.length : Int))))).bind fun x197 => (gd (!x197) (pack_Pack_Blobs p1) 0).bind fun r198 => (gd (!x197) (ref27_Blobs x2) []).bind fun r199 => (some (x197 || (!decide (r198 = (r199.length : Int))))).bind fun x202 => (gd (!x202) (pack_Pack_Head p1) []).bind fun r203 => if (x202 || (!eqS (bsS r203) x2.1)) then (some false) else (law27_alike_l1 p1 x2 t3 r185 r190 (ByteArray.empty, false, 0))
end Go.Proofs.Ytnmkonlfnpcoiaa
