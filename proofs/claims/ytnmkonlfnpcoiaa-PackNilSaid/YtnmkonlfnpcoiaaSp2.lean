import Derived.Test.YtnmkonlfnpcoiaaSp1
namespace Go.Proofs.Ytnmkonlfnpcoiaa
set_option linter.unusedVariables false
noncomputable def ref07_Same_b1 (x1 : List Int) (b2 : List Int) (i78 : Int) : Option (Int ⊕ Bool) :=
  if (decide (i78 < (x1.length : Int))) then ((ix x1 i78).bind fun x98 => (ix b2 i78).bind fun x99 => if (!decide (x98 = x99)) then (Option.map Sum.inr (some false)) else (some (Sum.inl (ad i78 1)))) else (Option.map Sum.inr (some true))
noncomputable def ref07_Same_l1 (x1 : List Int) (b2 : List Int) (s : Int) : Option (Bool) := loopO (fun s => ref07_Same_b1 x1 b2 s) s
noncomputable def ref07_Same (x1 : List Int) (b2 : List Int) : Option (Bool) :=
  if (!decide ((x1.length : Int) = (b2.length : Int))) then (some false) else (ref07_Same_l1 x1 b2 0)
noncomputable def internal_stringslite_HasPrefix (s1 : ByteArray) (prefix2 : ByteArray) : Option (Bool) :=
  (gd (decide ((prefix2.size : Int) ≤ (s1.size : Int))) (cutS s1 0 (prefix2.size : Int)) ByteArray.empty).bind fun x16 => (some ((decide ((prefix2.size : Int) ≤ (s1.size : Int))) && (eqS x16 prefix2))).bind fun x17 => some x17
noncomputable def strings_HasPrefix (s1 : ByteArray) (prefix2 : ByteArray) : Option (Bool) :=
  (internal_stringslite_HasPrefix s1 prefix2).bind fun r15 => some r15
noncomputable def bytes_Clone (b1 : List Int) : Option (List Int) :=
  (app ([] : List Int) b1).bind fun x28 => some x28
noncomputable def varint_Read_b1_0 (b1 : List Int) (n211 : Int) (i212 : Int) : Option (((Int × Int)) ⊕ (Int × Int × Int)) :=
  if (decide (i212 = 10)) then (Option.map Sum.inr (some (0, 0, 5))) else (if (decide (i212 = (b1.length : Int))) then (Option.map Sum.inr (some (0, 0, 4))) else ((ix b1 i212).bind fun x256 => (slK .u64 (IntKind.u64.wrap (anK .u8 x256 127)) (ml 7 i212)).bind fun x257 => (ix b1 (sb (ad i212 1) 1)).bind fun x261 => if (decide (128 ≤ x261)) then (some (Sum.inl (orK .u64 n211 x257, ad i212 1))) else ((gd (decide ((ad i212 1) = 10)) (ix b1 (sb (ad i212 1) 1)) 0).bind fun x266 => (some ((decide ((ad i212 1) = 10)) && (decide (1 < x266)))).bind fun x267 => if x267 then (Option.map Sum.inr (some (0, 0, 5))) else ((gd (decide (1 < (ad i212 1))) (ix b1 (sb (ad i212 1) 1)) 0).bind fun x271 => (some ((decide (1 < (ad i212 1))) && (decide (x271 = 0)))).bind fun x272 => if x272 then (Option.map Sum.inr (some (0, 0, 3))) else (Option.map Sum.inr (some (orK .u64 n211 x257, ad i212 1, 0)))))))
noncomputable def varint_Read_l1 (b1 : List Int) (s : (Int × Int)) : Option (Int × Int × Int) := loopO (fun s => varint_Read_b1_0 b1 s.1 s.2) s
noncomputable def varint_Read (b1 : List Int) : Option (Int × Int × Int) :=
  if (decide (0 = (b1.length : Int))) then (some (0, 0, 4)) else ((ix b1 0).bind fun x286 => (slK .u64 (IntKind.u64.wrap (anK .u8 x286 127)) 0).bind fun x287 => (ix b1 0).bind fun x291 => if (decide (128 ≤ x291)) then (varint_Read_l1 b1 (orK .u64 0 x287, 1)) else (if (false && false) then (some (0, 0, 5)) else (if (false && false) then (some (0, 0, 3)) else (some (orK .u64 0 x287, 1, 0)))))
noncomputable def pack_reader_number (r1 : (List Int) × Int) : Option (Int × ((List Int) × Int)) :=
  if (!decide (r1.2 = 0)) then (some (0, r1)) else ((varint_Read r1.1).bind fun r38 => if (!decide (r38.2.2 = 0)) then (some (0, (r1.1, r38.2.2))) else ((cut r1.1 r38.2.1 (r1.1.length : Int)).bind fun x48 => some (r38.1, (x48, r1.2))))
noncomputable def pack_reader_whole (r1 : (List Int) × Int) : Option ((List Int) × ((List Int) × Int)) :=
  (pack_reader_number r1).bind fun r43 => if (!decide (r43.2.2 = 0)) then (some (([] : List Int), r43.2)) else ((some (IntKind.u64.wrap (r43.2.1.length : Int))).bind fun x52 => if (decide (x52 < r43.1)) then (some (([] : List Int), (r43.2.1, 4))) else ((cut r43.2.1 0 r43.1).bind fun x58 => (bytes_Clone x58).bind fun r60 => (cut r43.2.1 r43.1 (r43.2.1.length : Int)).bind fun x66 => some (r60, (x66, r43.2.2))))
noncomputable def pack_reader_count_k1 (r35 : Int × ((List Int) × Int)) (r46 : Int) : Option (Int × ((List Int) × Int)) :=
  some (IntKind.i64.wrap (mn r35.1 341), (r35.2.1, r46))
noncomputable def pack_reader_count (r1 : (List Int) × Int) : Option (Int × ((List Int) × Int)) :=
  (pack_reader_number r1).bind fun r35 => (some ((decide (r35.2.2 = 0)) && (decide (341 < r35.1)))).bind fun x50 => if x50 then (pack_reader_count_k1 r35 6) else (pack_reader_count_k1 r35 r35.2.2)
noncomputable def pack_reader_tile_k1 (r98 : Int × ((List Int) × Int)) (r101 : Int × ((List Int) × Int)) (r104 : Int × ((List Int) × Int)) (r156 : Int) : Option ((Int × Int × Int) × ((List Int) × Int)) :=
  some ((IntKind.i64.wrap (mn r98.1 1048576), IntKind.i64.wrap (mn r101.1 1048576), IntKind.i64.wrap (mn r104.1 1048576)), (r104.2.1, r156))
noncomputable def pack_reader_tile (r1 : (List Int) × Int) (last2 : Int × Int × Int) (first3 : Bool) : Option ((Int × Int × Int) × ((List Int) × Int)) :=
  (pack_reader_number r1).bind fun r98 => (pack_reader_number r98.2).bind fun r101 => (pack_reader_number r101.2).bind fun r104 => if (!decide (r104.2.2 = 0)) then (pack_reader_tile_k1 r98 r101 r104 r104.2.2) else ((window_Right (IntKind.i64.wrap (mn r98.1 1048576), IntKind.i64.wrap (mn r101.1 1048576), IntKind.i64.wrap (mn r104.1 1048576))).bind fun r163 => if (!r163) then (pack_reader_tile_k1 r98 r101 r104 5) else ((gd (!first3) (window_Less last2 (IntKind.i64.wrap (mn r98.1 1048576), IntKind.i64.wrap (mn r101.1 1048576), IntKind.i64.wrap (mn r104.1 1048576))) false).bind fun r168 => if ((!first3) && (!r168)) then (pack_reader_tile_k1 r98 r101 r104 18) else (pack_reader_tile_k1 r98 r101 r104 r104.2.2)))
noncomputable def pack_reader_blob_k1 (r79 : Int × ((List Int) × Int)) (r127 : Int) : Option (Int × ((List Int) × Int)) :=
  some (IntKind.i64.wrap r79.1, (r79.2.1, r127))
noncomputable def pack_reader_blob (r1 : (List Int) × Int) (all2 : Int) (used3 : Int) : Option (Int × ((List Int) × Int)) :=
  (pack_reader_number r1).bind fun r79 => if (!decide (r79.2.2 = 0)) then (some (0, r79.2)) else (if (decide ((IntKind.u64.wrap all2) ≤ r79.1)) then (some (0, (r79.2.1, 5))) else (if (decide (used3 < (IntKind.i64.wrap r79.1))) then (pack_reader_blob_k1 r79 18) else (pack_reader_blob_k1 r79 r79.2.2)))
end Go.Proofs.Ytnmkonlfnpcoiaa
