import Derived.Test.YtaobbaohelpdgaaSp3
import Derived.Test.YtaobbaohelpdgaaSp4
import Derived.Test.YtaobbaohelpdgaaSp5
namespace Go.Proofs.Ytaobbaohelpdgaa
set_option linter.unusedVariables false
noncomputable def ref01_May (p1 : Int × Int) : Option (Bool) :=
  (some ((decide ((-16777216) ≤ p1.1)) && (decide (p1.1 ≤ 16777216)))).bind fun x20 => (some (x20 && (decide ((-16777216) ≤ p1.2)))).bind fun x21 => some (x21 && (decide (p1.2 ≤ 16777216)))
noncomputable def ref01_All_b1 (l1 : List (Int × Int)) (i70 : Int) : Option (Int ⊕ Bool) :=
  if (decide (i70 < (l1.length : Int))) then ((ix l1 i70).bind fun x90 => (ref01_May x90).bind fun r91 => if (!r91) then (Option.map Sum.inr (some false)) else (some (Sum.inl (ad i70 1)))) else (Option.map Sum.inr (some true))
noncomputable def ref01_All_l1 (l1 : List (Int × Int)) (s : Int) : Option (Bool) := loopO (fun s => ref01_All_b1 l1 s) s
noncomputable def ref01_All (l1 : List (Int × Int)) : Option (Bool) :=
  ref01_All_l1 l1 0
noncomputable def ref26_Check_b3 (n1 : (List ((List (Int × Int)) × Int × Int)) × (List (List (List Int)))) (i1235 : Int) (rings1318 : Int) (refs1319 : Int) (k1320 : Int) : Option ((Int × Int × Int) ⊕ ((Int × Int × Int) ⊕ Int)) :=
  (ix n1.2 i1235).bind fun x1339 => if (decide (k1320 < (x1339.length : Int))) then ((ix n1.2 i1235).bind fun x1346 => (ix x1346 k1320).bind fun x1348 => some (Sum.inl (ad rings1318 1, ad refs1319 (x1348.length : Int), ad k1320 1))) else (Option.map Sum.inr (some (Sum.inl (rings1318, refs1319, ad i1235 1))))
noncomputable def ref26_Check_l3 (n1 : (List ((List (Int × Int)) × Int × Int)) × (List (List (List Int)))) (i1235 : Int) (s : Int × Int × Int) : Option ((Int × Int × Int) ⊕ Int) := loopO (fun s => ref26_Check_b3 n1 i1235 s.1 s.2.1 s.2.2) s
noncomputable def ref26_Check_b7 (n1 : (List ((List (Int × Int)) × Int × Int)) × (List (List (List Int)))) (i1700 : Int) (k2073 : Int) (j2198 : Int) : Option (Int ⊕ (Int ⊕ (Int ⊕ Int))) :=
  (ix n1.2 i1700).bind fun x2227 => (ix x2227 k2073).bind fun x2229 => if (decide (j2198 < (x2229.length : Int))) then ((ix n1.2 i1700).bind fun x2235 => (ix x2235 k2073).bind fun x2237 => (ix x2237 j2198).bind fun x2239 => (gd (!(decide (x2239 < (-65536)))) (ix n1.2 i1700) []).bind fun x2240 => (gd (!(decide (x2239 < (-65536)))) (ix x2240 k2073) []).bind fun x2242 => (gd (!(decide (x2239 < (-65536)))) (ix x2242 j2198) 0).bind fun x2244 => (some ((decide (x2239 < (-65536))) || (decide (65536 < x2244)))).bind fun x2245 => if x2245 then (Option.map Sum.inr (Option.map Sum.inr (Option.map Sum.inr (some 5)))) else (some (Sum.inl (ad j2198 1)))) else (Option.map Sum.inr (some (Sum.inl (ad k2073 1))))
noncomputable def ref26_Check_l7 (n1 : (List ((List (Int × Int)) × Int × Int)) × (List (List (List Int)))) (i1700 : Int) (k2073 : Int) (s : Int) : Option (Int ⊕ (Int ⊕ Int)) := loopO (fun s => ref26_Check_b7 n1 i1700 k2073 s) s
noncomputable def ref26_Check_b6 (n1 : (List ((List (Int × Int)) × Int × Int)) × (List (List (List Int)))) (i1700 : Int) (k2073 : Int) : Option (Int ⊕ (Int ⊕ Int)) :=
  (ix n1.2 i1700).bind fun x2165 => if (decide (k2073 < (x2165.length : Int))) then (ref26_Check_l7 n1 i1700 k2073 0) else (Option.map Sum.inr (some (Sum.inl (ad i1700 1))))
noncomputable def ref26_Check_l6 (n1 : (List ((List (Int × Int)) × Int × Int)) × (List (List (List Int)))) (i1700 : Int) (s : Int) : Option (Int ⊕ Int) := loopO (fun s => ref26_Check_b6 n1 i1700 s) s
noncomputable def ref26_Check_b5 (n1 : (List ((List (Int × Int)) × Int × Int)) × (List (List (List Int)))) (i1700 : Int) : Option (Int ⊕ Int) :=
  if (decide (i1700 < (n1.2.length : Int))) then (ref26_Check_l6 n1 i1700 0) else (Option.map Sum.inr (some 0))
noncomputable def ref26_Check_l5 (n1 : (List ((List (Int × Int)) × Int × Int)) × (List (List (List Int)))) (s : Int) : Option (Int) := loopO (fun s => ref26_Check_b5 n1 s) s
noncomputable def ref26_Check_b4 (n1 : (List ((List (Int × Int)) × Int × Int)) × (List (List (List Int)))) (i1382 : Int) : Option (Int ⊕ Int) :=
  if (decide (i1382 < (n1.1.length : Int))) then ((ix n1.1 i1382).bind fun x1409 => (some ((decide (x1409.2.1 < 0)) || (decide (32 < x1409.2.1)))).bind fun x1415 => (some ((x1415 || (decide (x1409.2.2 < 0))) || (decide (32 < x1409.2.2)))).bind fun x1416 => (gd (!x1416) (ref01_All x1409.1) false).bind fun r1417 => if (x1416 || (!r1417)) then (Option.map Sum.inr (some 5)) else (some (Sum.inl (ad i1382 1)))) else (Option.map Sum.inr (ref26_Check_l5 n1 0))
noncomputable def ref26_Check_l4 (n1 : (List ((List (Int × Int)) × Int × Int)) × (List (List (List Int)))) (s : Int) : Option (Int) := loopO (fun s => ref26_Check_b4 n1 s) s
noncomputable def ref26_Check_b2 (n1 : (List ((List (Int × Int)) × Int × Int)) × (List (List (List Int)))) (points1149 : Int) (rings1233 : Int) (refs1234 : Int) (i1235 : Int) : Option ((Int × Int × Int) ⊕ Int) :=
  if (decide (i1235 < (n1.2.length : Int))) then (ref26_Check_l3 n1 i1235 (rings1233, refs1234, 0)) else (Option.map Sum.inr ((some ((decide (65536 < (n1.1.length : Int))) || (decide (65536 < points1149)))).bind fun x1354 => (some (x1354 || (decide (32 < (n1.2.length : Int))))).bind fun x1355 => (some ((x1355 || (decide (64 < rings1233))) || (decide (65536 < refs1234)))).bind fun x1356 => if x1356 then (some 6) else (ref26_Check_l4 n1 0)))
noncomputable def ref26_Check_l2 (n1 : (List ((List (Int × Int)) × Int × Int)) × (List (List (List Int)))) (points1149 : Int) (s : Int × Int × Int) : Option (Int) := loopO (fun s => ref26_Check_b2 n1 points1149 s.1 s.2.1 s.2.2) s
noncomputable def ref26_Check_b1 (n1 : (List ((List (Int × Int)) × Int × Int)) × (List (List (List Int)))) (points1149 : Int) (i1150 : Int) : Option ((Int × Int) ⊕ Int) :=
  if (decide (i1150 < (n1.1.length : Int))) then ((ix n1.1 i1150).bind fun x1168 => some (Sum.inl (ad points1149 (x1168.1.length : Int), ad i1150 1))) else (Option.map Sum.inr (ref26_Check_l2 n1 points1149 (0, 0, 0)))
noncomputable def ref26_Check_l1 (n1 : (List ((List (Int × Int)) × Int × Int)) × (List (List (List Int)))) (s : Int × Int) : Option (Int) := loopO (fun s => ref26_Check_b1 n1 s.1 s.2) s
noncomputable def ref26_Check (n1 : (List ((List (Int × Int)) × Int × Int)) × (List (List (List Int)))) : Option (Int) :=
  ref26_Check_l1 n1 (0, 0)
noncomputable def ref07_Zig (n1 : Int) : Option (Int) :=
  if (decide (n1 < 0)) then ((some (mlK .u64 2 (IntKind.u64.wrap (ng (ad n1 1))))).bind fun x22 => some (adK .u64 x22 1)) else (some (mlK .u64 2 (IntKind.u64.wrap n1)))
noncomputable def ref26_Numbers_b2 (i1750 : Int) (x1872 : (List (Int × Int)) × Int × Int) (out1919 : List Int) (x1922 : Int × Int) (k1923 : Int) : Option (((List Int) × (Int × Int) × Int) ⊕ (((List Int) × (Int × Int) × Int) ⊕ (List Int))) :=
  if (decide (k1923 < (x1872.1.length : Int))) then ((ix x1872.1 k1923).bind fun x1964 => (ref07_Zig (sb x1964.1 x1922.1)).bind fun r1965 => (ix x1872.1 k1923).bind fun x1966 => (ref07_Zig (sb x1966.2 x1922.2)).bind fun r1967 => (app out1919 [r1965, r1967]).bind fun x1970 => (ix x1872.1 k1923).bind fun x1975 => some (Sum.inl (x1970, x1975, ad k1923 1))) else (Option.map Sum.inr (some (Sum.inl (out1919, x1922, ad i1750 1))))
noncomputable def ref26_Numbers_l2 (i1750 : Int) (x1872 : (List (Int × Int)) × Int × Int) (s : (List Int) × (Int × Int) × Int) : Option (((List Int) × (Int × Int) × Int) ⊕ (List Int)) := loopO (fun s => ref26_Numbers_b2 i1750 x1872 s.1 s.2.1 s.2.2) s
noncomputable def ref26_Numbers_b5 (n1 : (List ((List (Int × Int)) × Int × Int)) × (List (List (List Int)))) (i2408 : Int) (k2977 : Int) (out3168 : List Int) (j3170 : Int) : Option (((List Int) × Int) ⊕ (((List Int) × Int) ⊕ (((List Int) × Int) ⊕ (List Int)))) :=
  (ix n1.2 i2408).bind fun x3205 => (ix x3205 k2977).bind fun x3207 => if (decide (j3170 < (x3207.length : Int))) then ((ix n1.2 i2408).bind fun x3221 => (ix x3221 k2977).bind fun x3223 => (ix x3223 j3170).bind fun x3225 => (ref07_Zig x3225).bind fun r3226 => (app out3168 [r3226]).bind fun x3229 => some (Sum.inl (x3229, ad j3170 1))) else (Option.map Sum.inr (some (Sum.inl (out3168, ad k2977 1))))
noncomputable def ref26_Numbers_l5 (n1 : (List ((List (Int × Int)) × Int × Int)) × (List (List (List Int)))) (i2408 : Int) (k2977 : Int) (s : (List Int) × Int) : Option (((List Int) × Int) ⊕ (((List Int) × Int) ⊕ (List Int))) := loopO (fun s => ref26_Numbers_b5 n1 i2408 k2977 s.1 s.2) s
noncomputable def ref26_Numbers_b4 (n1 : (List ((List (Int × Int)) × Int × Int)) × (List (List (List Int)))) (i2408 : Int) (out2975 : List Int) (k2977 : Int) : Option (((List Int) × Int) ⊕ (((List Int) × Int) ⊕ (List Int))) :=
  (ix n1.2 i2408).bind fun x3109 => if (decide (k2977 < (x3109.length : Int))) then ((ix n1.2 i2408).bind fun x3122 => (ix x3122 k2977).bind fun x3124 => (some (IntKind.u64.wrap (x3124.length : Int))).bind fun x3126 => (app out2975 [x3126]).bind fun x3129 => ref26_Numbers_l5 n1 i2408 k2977 (x3129, 0)) else (Option.map Sum.inr (some (Sum.inl (out2975, ad i2408 1))))
noncomputable def ref26_Numbers_l4 (n1 : (List ((List (Int × Int)) × Int × Int)) × (List (List (List Int)))) (i2408 : Int) (s : (List Int) × Int) : Option (((List Int) × Int) ⊕ (List Int)) := loopO (fun s => ref26_Numbers_b4 n1 i2408 s.1 s.2) s
noncomputable def ref26_Numbers_b3 (n1 : (List ((List (Int × Int)) × Int × Int)) × (List (List (List Int)))) (out2406 : List Int) (i2408 : Int) : Option (((List Int) × Int) ⊕ (List Int)) :=
  if (decide (i2408 < (n1.2.length : Int))) then ((ix n1.2 i2408).bind fun x2834 => (some (IntKind.u64.wrap (x2834.length : Int))).bind fun x2836 => (app out2406 [x2836]).bind fun x2839 => ref26_Numbers_l4 n1 i2408 (x2839, 0)) else (Option.map Sum.inr (some out2406))
noncomputable def ref26_Numbers_l3 (n1 : (List ((List (Int × Int)) × Int × Int)) × (List (List (List Int)))) (s : (List Int) × Int) : Option (List Int) := loopO (fun s => ref26_Numbers_b3 n1 s.1 s.2) s
noncomputable def ref26_Numbers_b1 (n1 : (List ((List (Int × Int)) × Int × Int)) × (List (List (List Int)))) (out1746 : List Int) (x1749 : Int × Int) (i1750 : Int) : Option (((List Int) × (Int × Int) × Int) ⊕ (List Int)) :=
  if (decide (i1750 < (n1.1.length : Int))) then ((ix n1.1 i1750).bind fun x1872 => (some (IntKind.u64.wrap (x1872.1.length : Int))).bind fun x1881 => (app out1746 [IntKind.u64.wrap x1872.2.1, IntKind.u64.wrap x1872.2.2, x1881]).bind fun x1884 => ref26_Numbers_l2 i1750 x1872 (x1884, x1749, 0)) else (Option.map Sum.inr ((app out1746 [IntKind.u64.wrap (n1.2.length : Int)]).bind fun x1984 => ref26_Numbers_l3 n1 (x1984, 0)))
noncomputable def ref26_Numbers_l1 (n1 : (List ((List (Int × Int)) × Int × Int)) × (List (List (List Int)))) (s : (List Int) × (Int × Int) × Int) : Option (List Int) := loopO (fun s => ref26_Numbers_b1 n1 s.1 s.2.1 s.2.2) s
noncomputable def ref26_Numbers (n1 : (List ((List (Int × Int)) × Int × Int)) × (List (List (List Int)))) : Option (List Int) :=
  ref26_Numbers_l1 n1 ([IntKind.u64.wrap (n1.1.length : Int)], (0, 0), 0)
end Go.Proofs.Ytaobbaohelpdgaa
