/-
  Chapter 26. Said plainly. No program in sight.
-/
import Derived.Test.YtaobbaohelpdgaaSp1
namespace Go.Proofs.Ytaobbaohelpdgaa
set_option linter.unusedVariables false
noncomputable def varint_Bytes_b2_0 (x1248 : Int) (out1816 : List Int) (n1817 : Int) : Option ((((List Int) × Int)) ⊕ (((List Int) × Int) ⊕ (List Int))) :=
  if (decide (n1817 < 128)) then ((app out1816 [IntKind.u8.wrap n1817]).bind fun x1851 => Option.map Sum.inr (some (Sum.inl (x1851, ad x1248 1)))) else ((app out1816 [orK .u8 (IntKind.u8.wrap n1817) 128]).bind fun x1860 => (srK .u64 n1817 7).bind fun x1864 => some (Sum.inl (x1860, x1864)))
noncomputable def varint_Bytes_l2 (x1248 : Int) (s : ((List Int) × Int)) : Option (((List Int) × Int) ⊕ (List Int)) := loopO (fun s => varint_Bytes_b2_0 x1248 s.1 s.2) s
noncomputable def varint_Bytes_b1 (l1 : List Int) (out1246 : List Int) (x1248 : Int) : Option (((List Int) × Int) ⊕ (List Int)) :=
  if (decide (x1248 < (l1.length : Int))) then ((ix l1 x1248).bind fun x1790 => varint_Bytes_l2 x1248 (out1246, x1790)) else (Option.map Sum.inr (some out1246))
noncomputable def varint_Bytes_l1 (l1 : List Int) (s : (List Int) × Int) : Option (List Int) := loopO (fun s => varint_Bytes_b1 l1 s.1 s.2) s
noncomputable def varint_Bytes (l1 : List Int) : Option (List Int) :=
  varint_Bytes_l1 l1 (([] : List Int), 0)
noncomputable def varint_Zig (n1 : Int) : Option (Int) :=
  (slK .u64 (IntKind.u64.wrap n1) 1).bind fun x16 => (srK .i64 n1 63).bind fun x17 => some (xoK .u64 x16 (IntKind.u64.wrap x17))
noncomputable def block_Bytes_1 (k1 : Int) (f1 : List Int) : Option (List Int) :=
  (varint_Bytes [IntKind.u64.wrap k1]).bind fun r51 => (app f1 r51).bind fun x54 => some x54
noncomputable def block_Bytes_2 (k1 : Int) (f1 : List Int) : Option (List Int) :=
  (varint_Zig k1).bind fun r54 => (varint_Bytes [r54]).bind fun r57 => (app f1 r57).bind fun x60 => some x60
noncomputable def block_Bytes_b2 (x1205 : Int) (x1324 : (List (Int × Int)) × Int × Int) (out1374 : List Int) (x1377 : Int × Int) (x1378 : Int) : Option (((List Int) × (Int × Int) × Int) ⊕ (((List Int) × (Int × Int) × Int) ⊕ ((List Int) × Int))) :=
  if (decide (x1378 < (x1324.1.length : Int))) then ((ix x1324.1 x1378).bind fun x1410 => (block_Bytes_2 (sb x1410.1 x1377.1) out1374).bind fun r1415 => (block_Bytes_2 (sb x1410.2 x1377.2) r1415).bind fun r1420 => some (Sum.inl (r1420, x1410, ad x1378 1))) else (Option.map Sum.inr (some (Sum.inl (out1374, x1377, ad x1205 1))))
noncomputable def block_Bytes_l2 (x1205 : Int) (x1324 : (List (Int × Int)) × Int × Int) (s : (List Int) × (Int × Int) × Int) : Option (((List Int) × (Int × Int) × Int) ⊕ ((List Int) × Int)) := loopO (fun s => block_Bytes_b2 x1205 x1324 s.1 s.2.1 s.2.2) s
noncomputable def block_Bytes_b5 (x1975 : Int) (x2049 : List Int) (out2076 : List Int) (x2078 : Int) : Option (((List Int) × Int) ⊕ (((List Int) × Int) ⊕ (((List Int) × Int) ⊕ ((List Int) × Int)))) :=
  if (decide (x2078 < (x2049.length : Int))) then ((ix x2049 x2078).bind fun x2100 => (block_Bytes_2 x2100 out2076).bind fun r2102 => some (Sum.inl (r2102, ad x2078 1))) else (Option.map Sum.inr (some (Sum.inl (out2076, ad x1975 1))))
noncomputable def block_Bytes_l5 (x1975 : Int) (x2049 : List Int) (s : (List Int) × Int) : Option (((List Int) × Int) ⊕ (((List Int) × Int) ⊕ ((List Int) × Int))) := loopO (fun s => block_Bytes_b5 x1975 x2049 s.1 s.2) s
noncomputable def block_Bytes_b4 (x1664 : Int) (x1894 : List (List Int)) (out1973 : List Int) (x1975 : Int) : Option (((List Int) × Int) ⊕ (((List Int) × Int) ⊕ ((List Int) × Int))) :=
  if (decide (x1975 < (x1894.length : Int))) then ((ix x1894 x1975).bind fun x2049 => (block_Bytes_1 (x2049.length : Int) out1973).bind fun r2052 => block_Bytes_l5 x1975 x2049 (r2052, 0)) else (Option.map Sum.inr (some (Sum.inl (out1973, ad x1664 1))))
noncomputable def block_Bytes_l4 (x1664 : Int) (x1894 : List (List Int)) (s : (List Int) × Int) : Option (((List Int) × Int) ⊕ ((List Int) × Int)) := loopO (fun s => block_Bytes_b4 x1664 x1894 s.1 s.2) s
noncomputable def block_Bytes_b3 (n1 : (List ((List (Int × Int)) × Int × Int)) × (List (List (List Int)))) (out1662 : List Int) (x1664 : Int) : Option (((List Int) × Int) ⊕ ((List Int) × Int)) :=
  if (decide (x1664 < (n1.2.length : Int))) then ((ix n1.2 x1664).bind fun x1894 => (block_Bytes_1 (x1894.length : Int) out1662).bind fun r1897 => block_Bytes_l4 x1664 x1894 (r1897, 0)) else (Option.map Sum.inr (some (out1662, 0)))
noncomputable def block_Bytes_l3 (n1 : (List ((List (Int × Int)) × Int × Int)) × (List (List (List Int)))) (s : (List Int) × Int) : Option ((List Int) × Int) := loopO (fun s => block_Bytes_b3 n1 s.1 s.2) s
noncomputable def block_Bytes_b1 (n1 : (List ((List (Int × Int)) × Int × Int)) × (List (List (List Int)))) (out1201 : List Int) (x1204 : Int × Int) (x1205 : Int) : Option (((List Int) × (Int × Int) × Int) ⊕ ((List Int) × Int)) :=
  if (decide (x1205 < (n1.1.length : Int))) then ((ix n1.1 x1205).bind fun x1324 => (block_Bytes_1 x1324.2.1 out1201).bind fun r1330 => (block_Bytes_1 x1324.2.2 r1330).bind fun r1335 => (block_Bytes_1 (x1324.1.length : Int) r1335).bind fun r1340 => block_Bytes_l2 x1205 x1324 (r1340, x1204, 0)) else (Option.map Sum.inr ((block_Bytes_1 (n1.2.length : Int) out1201).bind fun r1429 => block_Bytes_l3 n1 (r1429, 0)))
noncomputable def block_Bytes_l1 (n1 : (List ((List (Int × Int)) × Int × Int)) × (List (List (List Int)))) (s : (List Int) × (Int × Int) × Int) : Option ((List Int) × Int) := loopO (fun s => block_Bytes_b1 n1 s.1 s.2.1 s.2.2) s
noncomputable def block_Bytes (n1 : (List ((List (Int × Int)) × Int × Int)) × (List (List (List Int)))) : Option ((List Int) × Int) :=
  (block_Check n1).bind fun r1065 => if (!decide (r1065 = 0)) then (some (([] : List Int), r1065)) else ((block_Bytes_1 (n1.1.length : Int) ([] : List Int)).bind fun r1079 => block_Bytes_l1 n1 (r1079, (0, 0), 0))
end Go.Proofs.Ytaobbaohelpdgaa
