import Derived.Test.YtaobbaohelpdgaaPst
namespace Go.Proofs.Ytaobbaohelpdgaa
set_option linter.unusedVariables false
noncomputable def block_many_b3 (rings325 : Int) (x327 : Int) (x384 : List (List Int)) (refs401 : Int) (x402 : Int) : Option ((Int × Int) ⊕ ((Int × Int × Int) ⊕ Bool)) :=
  if (decide (x402 < (x384.length : Int))) then ((ix x384 x402).bind fun x421 => some (Sum.inl (ad refs401 (x421.length : Int), ad x402 1))) else (Option.map Sum.inr (some (Sum.inl (ad rings325 (x384.length : Int), refs401, ad x327 1))))
noncomputable def block_many_l3 (rings325 : Int) (x327 : Int) (x384 : List (List Int)) (s : Int × Int) : Option ((Int × Int × Int) ⊕ Bool) := loopO (fun s => block_many_b3 rings325 x327 x384 s.1 s.2) s
noncomputable def block_many_b2 (n1 : (List ((List (Int × Int)) × Int × Int)) × (List (List (List Int)))) (points242 : Int) (rings325 : Int) (refs326 : Int) (x327 : Int) : Option ((Int × Int × Int) ⊕ Bool) :=
  if (decide (x327 < (n1.2.length : Int))) then ((ix n1.2 x327).bind fun x384 => block_many_l3 rings325 x327 x384 (refs326, 0)) else (Option.map Sum.inr ((some ((decide (65536 < (n1.1.length : Int))) || (decide (65536 < points242)))).bind fun x427 => (some (x427 || (decide (32 < (n1.2.length : Int))))).bind fun x428 => (some ((x428 || (decide (64 < rings325))) || (decide (65536 < refs326)))).bind fun x429 => some x429))
noncomputable def block_many_l2 (n1 : (List ((List (Int × Int)) × Int × Int)) × (List (List (List Int)))) (points242 : Int) (s : Int × Int × Int) : Option (Bool) := loopO (fun s => block_many_b2 n1 points242 s.1 s.2.1 s.2.2) s
noncomputable def block_many_b1 (n1 : (List ((List (Int × Int)) × Int × Int)) × (List (List (List Int)))) (points242 : Int) (x243 : Int) : Option ((Int × Int) ⊕ Bool) :=
  if (decide (x243 < (n1.1.length : Int))) then ((ix n1.1 x243).bind fun x265 => some (Sum.inl (ad points242 (x265.1.length : Int), ad x243 1))) else (Option.map Sum.inr (block_many_l2 n1 points242 (0, 0, 0)))
noncomputable def block_many_l1 (n1 : (List ((List (Int × Int)) × Int × Int)) × (List (List (List Int)))) (s : Int × Int) : Option (Bool) := loopO (fun s => block_many_b1 n1 s.1 s.2) s
noncomputable def block_many (n1 : (List ((List (Int × Int)) × Int × Int)) × (List (List (List Int)))) : Option (Bool) :=
  block_many_l1 n1 (0, 0)
noncomputable def block_side (n1 : Int) : Option (Bool) :=
  (some ((decide (0 ≤ n1)) && (decide (n1 ≤ 32)))).bind fun x15 => some x15
noncomputable def exact_within (n1 : Int) (least2 : Int) (greatest3 : Int) : Option (Bool) :=
  (some ((decide (least2 ≤ n1)) && (decide (n1 ≤ greatest3)))).bind fun x15 => some x15
noncomputable def exact_Right_b1 (l1 : List (Int × Int)) (x90 : Int) : Option (Int ⊕ Bool) :=
  if (decide (x90 < (l1.length : Int))) then ((ix l1 x90).bind fun x115 => (exact_within x115.1 (-16777216) 16777216).bind fun r120 => (gd (!(!r120)) (exact_within x115.2 (-16777216) 16777216) false).bind fun r121 => if ((!r120) || (!r121)) then (Option.map Sum.inr (some false)) else (some (Sum.inl (ad x90 1)))) else (Option.map Sum.inr (some true))
noncomputable def exact_Right_l1 (l1 : List (Int × Int)) (s : Int) : Option (Bool) := loopO (fun s => exact_Right_b1 l1 s) s
noncomputable def exact_Right (l1 : List (Int × Int)) : Option (Bool) :=
  exact_Right_l1 l1 0
noncomputable def block_ref (n1 : Int) : Option (Bool) :=
  (some ((decide ((-65536) ≤ n1)) && (decide (n1 ≤ 65536)))).bind fun x15 => some x15
noncomputable def block_Check_b4 (x1091 : Int) (x1152 : List Int) (x1170 : Int) : Option (Int ⊕ (Int ⊕ (Int ⊕ Int))) :=
  if (decide (x1170 < (x1152.length : Int))) then ((ix x1152 x1170).bind fun x1191 => (block_ref x1191).bind fun r1193 => if (!r1193) then (Option.map Sum.inr (Option.map Sum.inr (Option.map Sum.inr (some 5)))) else (some (Sum.inl (ad x1170 1)))) else (Option.map Sum.inr (some (Sum.inl (ad x1091 1))))
noncomputable def block_Check_l4 (x1091 : Int) (x1152 : List Int) (s : Int) : Option (Int ⊕ (Int ⊕ Int)) := loopO (fun s => block_Check_b4 x1091 x1152 s) s
noncomputable def block_Check_b3 (x852 : Int) (x1033 : List (List Int)) (x1091 : Int) : Option (Int ⊕ (Int ⊕ Int)) :=
  if (decide (x1091 < (x1033.length : Int))) then ((ix x1033 x1091).bind fun x1152 => block_Check_l4 x1091 x1152 0) else (Option.map Sum.inr (some (Sum.inl (ad x852 1))))
noncomputable def block_Check_l3 (x852 : Int) (x1033 : List (List Int)) (s : Int) : Option (Int ⊕ Int) := loopO (fun s => block_Check_b3 x852 x1033 s) s
noncomputable def block_Check_b2 (n1 : (List ((List (Int × Int)) × Int × Int)) × (List (List (List Int)))) (x852 : Int) : Option (Int ⊕ Int) :=
  if (decide (x852 < (n1.2.length : Int))) then ((ix n1.2 x852).bind fun x1033 => block_Check_l3 x852 x1033 0) else (Option.map Sum.inr (some 0))
noncomputable def block_Check_l2 (n1 : (List ((List (Int × Int)) × Int × Int)) × (List (List (List Int)))) (s : Int) : Option (Int) := loopO (fun s => block_Check_b2 n1 s) s
noncomputable def block_Check_b1 (n1 : (List ((List (Int × Int)) × Int × Int)) × (List (List (List Int)))) (x636 : Int) : Option (Int ⊕ Int) :=
  if (decide (x636 < (n1.1.length : Int))) then ((ix n1.1 x636).bind fun x663 => (block_side x663.2.1).bind fun r669 => (gd (!(!r669)) (block_side x663.2.2) false).bind fun r670 => (gd (!((!r669) || (!r670))) (exact_Right x663.1) false).bind fun r671 => if (((!r669) || (!r670)) || (!r671)) then (Option.map Sum.inr (some 5)) else (some (Sum.inl (ad x636 1)))) else (Option.map Sum.inr (block_Check_l2 n1 0))
noncomputable def block_Check_l1 (n1 : (List ((List (Int × Int)) × Int × Int)) × (List (List (List Int)))) (s : Int) : Option (Int) := loopO (fun s => block_Check_b1 n1 s) s
noncomputable def block_Check (n1 : (List ((List (Int × Int)) × Int × Int)) × (List (List (List Int)))) : Option (Int) :=
  (block_many n1).bind fun r610 => if r610 then (some 6) else (block_Check_l1 n1 0)
noncomputable def varint_Bytes_b2_0 (x1248 : Int) (out1816 : List Int) (n1817 : Int) : Option ((((List Int) × Int)) ⊕ (((List Int) × Int) ⊕ (List Int))) :=
  if (decide (n1817 < 128)) then ((app out1816 [IntKind.u8.wrap n1817]).bind fun x1851 => Option.map Sum.inr (some (Sum.inl (x1851, ad x1248 1)))) else ((app out1816 [orK .u8 (IntKind.u8.wrap n1817) 128]).bind fun x1860 => (srK .u64 n1817 7).bind fun x1864 => some (Sum.inl (x1860, x1864)))
noncomputable def varint_Bytes_l2 (x1248 : Int) (s : ((List Int) × Int)) : Option (((List Int) × Int) ⊕ (List Int)) := loopO (fun s => varint_Bytes_b2_0 x1248 s.1 s.2) s
noncomputable def varint_Bytes_b1 (l1 : List Int) (out1246 : List Int) (x1248 : Int) : Option (((List Int) × Int) ⊕ (List Int)) :=
  if (decide (x1248 < (l1.length : Int))) then ((ix l1 x1248).bind fun x1790 => varint_Bytes_l2 x1248 (out1246, x1790)) else (Option.map Sum.inr (some out1246))
noncomputable def varint_Bytes_l1 (l1 : List Int) (s : (List Int) × Int) : Option (List Int) := loopO (fun s => varint_Bytes_b1 l1 s.1 s.2) s
noncomputable def varint_Bytes (l1 : List Int) : Option (List Int) :=
  varint_Bytes_l1 l1 (([] : List Int), 0)
noncomputable def varint_Zig (n1 : Int) : Option (Int) :=
  (slK .u64 (IntKind.u64.wrap n1) 1).bind fun x16 => (srK .i64 n1 63).bind fun x17 => some (xoK .u64 x16 (IntKind.u64.wrap x17))
noncomputable def block_Bytes_1 (k1 : Int) (f1 : List Int) : Option (List Int) :=
  (varint_Bytes [IntKind.u64.wrap k1]).bind fun r51 => (app f1 r51).bind fun x54 => some x54
noncomputable def block_Bytes_2 (k1 : Int) (f1 : List Int) : Option (List Int) :=
  (varint_Zig k1).bind fun r54 => (varint_Bytes [r54]).bind fun r57 => (app f1 r57).bind fun x60 => some x60
noncomputable def block_Bytes_b2 (x1205 : Int) (x1324 : (List (Int × Int)) × Int × Int) (out1374 : List Int) (x1377 : Int × Int) (x1378 : Int) : Option (((List Int) × (Int × Int) × Int) ⊕ (((List Int) × (Int × Int) × Int) ⊕ ((List Int) × Int))) :=
  if (decide (x1378 < (x1324.1.length : Int))) then ((ix x1324.1 x1378).bind fun x1410 => (block_Bytes_2 (sb x1410.1 x1377.1) out1374).bind fun r1415 => (block_Bytes_2 (sb x1410.2 x1377.2) r1415).bind fun r1420 => some (Sum.inl (r1420, x1410, ad x1378 1))) else (Option.map Sum.inr (some (Sum.inl (out1374, x1377, ad x1205 1))))
noncomputable def block_Bytes_l2 (x1205 : Int) (x1324 : (List (Int × Int)) × Int × Int) (s : (List Int) × (Int × Int) × Int) : Option (((List Int) × (Int × Int) × Int) ⊕ ((List Int) × Int)) := loopO (fun s => block_Bytes_b2 x1205 x1324 s.1 s.2.1 s.2.2) s
noncomputable def block_Bytes_b5 (x1975 : Int) (x2049 : List Int) (out2076 : List Int) (x2078 : Int) : Option (((List Int) × Int) ⊕ (((List Int) × Int) ⊕ (((List Int) × Int) ⊕ ((List Int) × Int)))) :=
  if (decide (x2078 < (x2049.length : Int))) then ((ix x2049 x2078).bind fun x2100 => (block_Bytes_2 x2100 out2076).bind fun r2102 => some (Sum.inl (r2102, ad x2078 1))) else (Option.map Sum.inr (some (Sum.inl (out2076, ad x1975 1))))
noncomputable def block_Bytes_l5 (x1975 : Int) (x2049 : List Int) (s : (List Int) × Int) : Option (((List Int) × Int) ⊕ (((List Int) × Int) ⊕ ((List Int) × Int))) := loopO (fun s => block_Bytes_b5 x1975 x2049 s.1 s.2) s
noncomputable def block_Bytes_b4 (x1664 : Int) (x1894 : List (List Int)) (out1973 : List Int) (x1975 : Int) : Option (((List Int) × Int) ⊕ (((List Int) × Int) ⊕ ((List Int) × Int))) :=
  if (decide (x1975 < (x1894.length : Int))) then ((ix x1894 x1975).bind fun x2049 => (block_Bytes_1 (x2049.length : Int) out1973).bind fun r2052 => block_Bytes_l5 x1975 x2049 (r2052, 0)) else (Option.map Sum.inr (some (Sum.inl (out1973, ad x1664 1))))
noncomputable def block_Bytes_l4 (x1664 : Int) (x1894 : List (List Int)) (s : (List Int) × Int) : Option (((List Int) × Int) ⊕ ((List Int) × Int)) := loopO (fun s => block_Bytes_b4 x1664 x1894 s.1 s.2) s
noncomputable def block_Bytes_b3 (n1 : (List ((List (Int × Int)) × Int × Int)) × (List (List (List Int)))) (out1662 : List Int) (x1664 : Int) : Option (((List Int) × Int) ⊕ ((List Int) × Int)) :=
  if (decide (x1664 < (n1.2.length : Int))) then ((ix n1.2 x1664).bind fun x1894 => (block_Bytes_1 (x1894.length : Int) out1662).bind fun r1897 => block_Bytes_l4 x1664 x1894 (r1897, 0)) else (Option.map Sum.inr (some (out1662, 0)))
noncomputable def block_Bytes_l3 (n1 : (List ((List (Int × Int)) × Int × Int)) × (List (List (List Int)))) (s : (List Int) × Int) : Option ((List Int) × Int) := loopO (fun s => block_Bytes_b3 n1 s.1 s.2) s
noncomputable def block_Bytes_b1 (n1 : (List ((List (Int × Int)) × Int × Int)) × (List (List (List Int)))) (out1201 : List Int) (x1204 : Int × Int) (x1205 : Int) : Option (((List Int) × (Int × Int) × Int) ⊕ ((List Int) × Int)) :=
  if (decide (x1205 < (n1.1.length : Int))) then ((ix n1.1 x1205).bind fun x1324 => (block_Bytes_1 x1324.2.1 out1201).bind fun r1330 => (block_Bytes_1 x1324.2.2 r1330).bind fun r1335 => (block_Bytes_1 (x1324.1.length : Int) r1335).bind fun r1340 => block_Bytes_l2 x1205 x1324 (r1340, x1204, 0)) else (Option.map Sum.inr ((block_Bytes_1 (n1.2.length : Int) out1201).bind fun r1429 => block_Bytes_l3 n1 (r1429, 0)))
noncomputable def block_Bytes_l1 (n1 : (List ((List (Int × Int)) × Int × Int)) × (List (List (List Int)))) (s : (List Int) × (Int × Int) × Int) : Option ((List Int) × Int) := loopO (fun s => block_Bytes_b1 n1 s.1 s.2.1 s.2.2) s
noncomputable def block_Bytes (n1 : (List ((List (Int × Int)) × Int × Int)) × (List (List (List Int)))) : Option ((List Int) × Int) :=
  (block_Check n1).bind fun r1065 => if (!decide (r1065 = 0)) then (some (([] : List Int), r1065)) else ((block_Bytes_1 (n1.1.length : Int) ([] : List Int)).bind fun r1079 => block_Bytes_l1 n1 (r1079, (0, 0), 0))
end Go.Proofs.Ytaobbaohelpdgaa
