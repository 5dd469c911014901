import Derived.Test.YtnmkonlfnpcoiaaSp3
namespace Go.Proofs.Ytnmkonlfnpcoiaa
set_option linter.unusedVariables false
noncomputable def pack_Write_1 (n1 : Int) (f1 : List Int) : Option (List Int) :=
  (varint_Bytes [IntKind.u64.wrap n1]).bind fun r51 => (app f1 r51).bind fun x54 => some x54
noncomputable def pack_Write_1_v (n1 : Int) (f1 : List Int) : Option (List Int) :=
  (varint_Bytes [IntKind.u64.wrap n1]).bind fun r44 => (apF f1 r44).bind fun x47 => some x47
noncomputable def pack_Write_2 (b1 : List Int) (f2 : List Int) : Option (List Int) :=
  (pack_Write_1_v (b1.length : Int) f2).bind fun r26 => (app r26 b1).bind fun x34 => some x34
noncomputable def pack_Write_2_v (b1 : List Int) (f2 : List Int) : Option (List Int) :=
  (pack_Write_1 (b1.length : Int) f2).bind fun r26 => (app r26 b1).bind fun x34 => some x34
noncomputable def pack_Write_b2 (r241 : ((List Int) × (List (List Int)) × (List ((Int × Int × Int) × Int))) × Int) (out400 : List Int) (x402 : Int) : Option (((List Int) × Int) ⊕ ((List Int) × Int)) :=
  if (decide (x402 < (r241.1.2.2.length : Int))) then ((ix r241.1.2.2 x402).bind fun x442 => (pack_Write_1 x442.1.1 out400).bind fun r447 => (pack_Write_1 x442.1.2.1 r447).bind fun r452 => (pack_Write_1 x442.1.2.2 r452).bind fun r457 => (pack_Write_1 x442.2 r457).bind fun r462 => some (Sum.inl (r462, ad x402 1))) else (Option.map Sum.inr (some (out400, 0)))
noncomputable def pack_Write_l2 (r241 : ((List Int) × (List (List Int)) × (List ((Int × Int × Int) × Int))) × Int) (s : (List Int) × Int) : Option ((List Int) × Int) := loopO (fun s => pack_Write_b2 r241 s.1 s.2) s
noncomputable def pack_Write_b1 (r241 : ((List Int) × (List (List Int)) × (List ((Int × Int × Int) × Int))) × Int) (out323 : List Int) (x325 : Int) : Option (((List Int) × Int) ⊕ ((List Int) × Int)) :=
  if (decide (x325 < (r241.1.2.1.length : Int))) then ((ix r241.1.2.1 x325).bind fun x348 => (pack_Write_2_v x348 out323).bind fun r351 => some (Sum.inl (r351, ad x325 1))) else (Option.map Sum.inr ((pack_Write_1 (r241.1.2.2.length : Int) out323).bind fun r357 => pack_Write_l2 r241 (r357, 0)))
noncomputable def pack_Write_l1 (r241 : ((List Int) × (List (List Int)) × (List ((Int × Int × Int) × Int))) × Int) (s : (List Int) × Int) : Option ((List Int) × Int) := loopO (fun s => pack_Write_b1 r241 s.1 s.2) s
noncomputable def pack_Write (head1 : List Int) (l2 : List ((Int × Int × Int) × (List Int))) : Option ((List Int) × Int) :=
  rngO (pack_packed head1 l2) (fun r241 => if (!decide (r241.2 = 0)) then (some (([] : List Int), r241.2)) else ((pack_Write_2 r241.1.1 [71, 82, 84, 49]).bind fun r289 => (pack_Write_1 (r241.1.2.1.length : Int) r289).bind fun r294 => pack_Write_l1 r241 (r294, 0))) (fun n252 => if (!decide (n252.2 = 0)) then (some (([] : List Int), n252.2)) else none)
noncomputable def ref07_Same_b1 (x1 : List Int) (b2 : List Int) (i78 : Int) : Option (Int ⊕ Bool) :=
  if (decide (i78 < (x1.length : Int))) then ((ix x1 i78).bind fun x98 => (ix b2 i78).bind fun x99 => if (!decide (x98 = x99)) then (Option.map Sum.inr (some false)) else (some (Sum.inl (ad i78 1)))) else (Option.map Sum.inr (some true))
noncomputable def ref07_Same_l1 (x1 : List Int) (b2 : List Int) (s : Int) : Option (Bool) := loopO (fun s => ref07_Same_b1 x1 b2 s) s
noncomputable def ref07_Same (x1 : List Int) (b2 : List Int) : Option (Bool) :=
  if (!decide ((x1.length : Int) = (b2.length : Int))) then (some false) else (ref07_Same_l1 x1 b2 0)
noncomputable def internal_stringslite_HasPrefix (s1 : ByteArray) (prefix2 : ByteArray) : Option (Bool) :=
  (gd (decide ((prefix2.size : Int) ≤ (s1.size : Int))) (cutS s1 0 (prefix2.size : Int)) ByteArray.empty).bind fun x16 => (some ((decide ((prefix2.size : Int) ≤ (s1.size : Int))) && (eqS x16 prefix2))).bind fun x17 => some x17
noncomputable def strings_HasPrefix (s1 : ByteArray) (prefix2 : ByteArray) : Option (Bool) :=
  (internal_stringslite_HasPrefix s1 prefix2).bind fun r15 => some r15
noncomputable def bytes_Clone (b1 : List Int) : Option (List Int) :=
  (app ([] : List Int) b1).bind fun x28 => some x28
noncomputable def varint_Read_b1_0 (b1 : List Int) (n195 : Int) (i196 : Int) : Option (((Int × Int)) ⊕ (Int × Int × Int)) :=
  if (decide (i196 = 10)) then (Option.map Sum.inr (some (0, 0, 5))) else (if (decide (i196 = (b1.length : Int))) then (Option.map Sum.inr (some (0, 0, 4))) else ((ix b1 i196).bind fun x240 => (slK .u64 (IntKind.u64.wrap (anK .u8 x240 127)) (ml 7 i196)).bind fun x241 => (ix b1 (sb (ad i196 1) 1)).bind fun x245 => if (decide (128 ≤ x245)) then (some (Sum.inl (orK .u64 n195 x241, ad i196 1))) else ((gd (decide ((ad i196 1) = 10)) (ix b1 (sb (ad i196 1) 1)) 0).bind fun x250 => (some ((decide ((ad i196 1) = 10)) && (decide (1 < x250)))).bind fun x251 => if x251 then (Option.map Sum.inr (some (0, 0, 5))) else ((gd (decide (1 < (ad i196 1))) (ix b1 (sb (ad i196 1) 1)) 0).bind fun x255 => (some ((decide (1 < (ad i196 1))) && (decide (x255 = 0)))).bind fun x256 => if x256 then (Option.map Sum.inr (some (0, 0, 3))) else (Option.map Sum.inr (some (orK .u64 n195 x241, ad i196 1, 0)))))))
noncomputable def varint_Read_l1 (b1 : List Int) (s : (Int × Int)) : Option (Int × Int × Int) := loopO (fun s => varint_Read_b1_0 b1 s.1 s.2) s
noncomputable def varint_Read (b1 : List Int) : Option (Int × Int × Int) :=
  if (decide (0 = (b1.length : Int))) then (some (0, 0, 4)) else ((ix b1 0).bind fun x270 => (slK .u64 (IntKind.u64.wrap (anK .u8 x270 127)) 0).bind fun x271 => (ix b1 0).bind fun x275 => if (decide (128 ≤ x275)) then (varint_Read_l1 b1 (orK .u64 0 x271, 1)) else (some (orK .u64 0 x271, 1, 0)))
noncomputable def pack_reader_number (r1 : (List Int) × Int) : Option (Int × ((List Int) × Int)) :=
  if (!decide (r1.2 = 0)) then (some (0, r1)) else ((varint_Read r1.1).bind fun r38 => if (!decide (r38.2.2 = 0)) then (some (0, (r1.1, r38.2.2))) else ((cut r1.1 r38.2.1 (r1.1.length : Int)).bind fun x48 => some (r38.1, (x48, r1.2))))
end Go.Proofs.Ytnmkonlfnpcoiaa
