import Derived.Test.YtnmkonlfnpcoiaaSp3
namespace Go.Proofs.Ytnmkonlfnpcoiaa
set_option linter.unusedVariables false
noncomputable def pack_Write_1 (d : Int) (c : List Int) : Option (List Int) :=
  (varint_Bytes [IntKind.u64.wrap d]).bind fun a => (app c a).bind fun b => some b
noncomputable def pack_Write_1_v (d : Int) (c : List Int) : Option (List Int) :=
  (varint_Bytes [IntKind.u64.wrap d]).bind fun a => (apF c a).bind fun b => some b
noncomputable def pack_Write_2 (c : List Int) (d : List Int) : Option (List Int) :=
  (pack_Write_1_v (c.length : Int) d).bind fun a => (app a c).bind fun b => some b
noncomputable def pack_Write_2_v (c : List Int) (d : List Int) : Option (List Int) :=
  (pack_Write_1 (c.length : Int) d).bind fun a => (app a c).bind fun b => some b
noncomputable def pack_Write_b2 (d : ((List Int) × (List (List Int)) × (List ((Int × Int × Int) × Int))) × Int) (a : List Int) (c : Int) : Option (((List Int) × Int) ⊕ ((List Int) × Int)) :=
  if (decide (c < (d.1.2.2.length : Int))) then ((ix d.1.2.2 c).bind fun b => (pack_Write_1 b.1.1 a).bind fun e => (pack_Write_1 b.1.2.1 e).bind fun f => (pack_Write_1 b.1.2.2 f).bind fun g => (pack_Write_1 b.2 g).bind fun h => some (Sum.inl (h, ad c 1))) else (Option.map Sum.inr (some (a, 0)))
noncomputable def pack_Write_l2 (a : ((List Int) × (List (List Int)) × (List ((Int × Int × Int) × Int))) × Int) (s : (List Int) × Int) : Option ((List Int) × Int) := loopO (fun s => pack_Write_b2 a s.1 s.2) s
noncomputable def pack_Write_b1 (b : ((List Int) × (List (List Int)) × (List ((Int × Int × Int) × Int))) × Int) (a : List Int) (c : Int) : Option (((List Int) × Int) ⊕ ((List Int) × Int)) :=
  if (decide (c < (b.1.2.1.length : Int))) then ((ix b.1.2.1 c).bind fun f => (pack_Write_2_v f a).bind fun d => some (Sum.inl (d, ad c 1))) else (Option.map Sum.inr ((pack_Write_1 (b.1.2.2.length : Int) a).bind fun e => pack_Write_l2 b (e, 0)))
noncomputable def pack_Write_l1 (a : ((List Int) × (List (List Int)) × (List ((Int × Int × Int) × Int))) × Int) (s : (List Int) × Int) : Option ((List Int) × Int) := loopO (fun s => pack_Write_b1 a s.1 s.2) s
noncomputable def pack_Write (c : List Int) (f : List ((Int × Int × Int) × (List Int))) : Option ((List Int) × Int) :=
  rngO (pack_packed c f) (fun a => if (!decide (a.2 = 0)) then (some (([] : List Int), a.2)) else ((pack_Write_2 a.1.1 [71, 82, 84, 49]).bind fun d => (pack_Write_1 (a.1.2.1.length : Int) d).bind fun e => pack_Write_l1 a (e, 0))) (fun b => if (!decide (b.2 = 0)) then (some (([] : List Int), b.2)) else none)
noncomputable def ref07_Same_b1 (d : List Int) (e : List Int) (a : Int) : Option (Int ⊕ Bool) :=
  if (decide (a < (d.length : Int))) then ((ix d a).bind fun b => (ix e a).bind fun c => if (!decide (b = c)) then (Option.map Sum.inr (some false)) else (some (Sum.inl (ad a 1)))) else (Option.map Sum.inr (some true))
noncomputable def ref07_Same_l1 (b : List Int) (a : List Int) (s : Int) : Option (Bool) := loopO (fun s => ref07_Same_b1 b a s) s
noncomputable def ref07_Same (b : List Int) (a : List Int) : Option (Bool) :=
  if (!decide ((b.length : Int) = (a.length : Int))) then (some false) else (ref07_Same_l1 b a 0)
noncomputable def internal_stringslite_HasPrefix (b : ByteArray) (a : ByteArray) : Option (Bool) :=
  (gd (decide ((a.size : Int) ≤ (b.size : Int))) (cutS b 0 (a.size : Int)) ByteArray.empty).bind fun c => (some ((decide ((a.size : Int) ≤ (b.size : Int))) && (eqS c a))).bind fun d => some d
noncomputable def strings_HasPrefix (c : ByteArray) (a : ByteArray) : Option (Bool) :=
  (internal_stringslite_HasPrefix c a).bind fun b => some b
noncomputable def bytes_Clone (b : List Int) : Option (List Int) :=
  (app ([] : List Int) b).bind fun a => some a
noncomputable def varint_Read_b1_0 (d : List Int) (b : Int) (a : Int) : Option (((Int × Int)) ⊕ (Int × Int × Int)) :=
  if (decide (a = 10)) then (Option.map Sum.inr (some (0, 0, 5))) else (if (decide (a = (d.length : Int))) then (Option.map Sum.inr (some (0, 0, 4))) else ((ix d a).bind fun e => (slK .u64 (IntKind.u64.wrap (anK .u8 e 127)) (ml 7 a)).bind fun c => (ix d (sb (ad a 1) 1)).bind fun f => if (decide (128 ≤ f)) then (some (Sum.inl (orK .u64 b c, ad a 1))) else ((gd (decide ((ad a 1) = 10)) (ix d (sb (ad a 1) 1)) 0).bind fun g => (some ((decide ((ad a 1) = 10)) && (decide (1 < g)))).bind fun h => if h then (Option.map Sum.inr (some (0, 0, 5))) else ((gd (decide (1 < (ad a 1))) (ix d (sb (ad a 1) 1)) 0).bind fun i => (some ((decide (1 < (ad a 1))) && (decide (i = 0)))).bind fun j => if j then (Option.map Sum.inr (some (0, 0, 3))) else (Option.map Sum.inr (some (orK .u64 b c, ad a 1, 0)))))))
noncomputable def varint_Read_l1 (a : List Int) (s : (Int × Int)) : Option (Int × Int × Int) := loopO (fun s => varint_Read_b1_0 a s.1 s.2) s
noncomputable def varint_Read (d : List Int) : Option (Int × Int × Int) :=
  if (decide (0 = (d.length : Int))) then (some (0, 0, 4)) else ((ix d 0).bind fun b => (slK .u64 (IntKind.u64.wrap (anK .u8 b 127)) 0).bind fun a => (ix d 0).bind fun c => if (decide (128 ≤ c)) then (varint_Read_l1 d (orK .u64 0 a, 1)) else (some (orK .u64 0 a, 1, 0)))
noncomputable def pack_reader_number (b : (List Int) × Int) : Option (Int × ((List Int) × Int)) :=
  if (!decide (b.2 = 0)) then (some (0, b)) else ((varint_Read b.1).bind fun a => if (!decide (a.2.2 = 0)) then (some (0, (b.1, a.2.2))) else ((cut b.1 a.2.1 (b.1.length : Int)).bind fun c => some (a.1, (c, b.2))))
end Go.Proofs.Ytnmkonlfnpcoiaa
