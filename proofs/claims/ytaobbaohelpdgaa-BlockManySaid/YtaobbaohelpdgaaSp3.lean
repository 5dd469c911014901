/-
  Chapter 26. Said plainly. No program in sight.
-/
import Derived.Test.YtaobbaohelpdgaaSp2
namespace Go.Proofs.Ytaobbaohelpdgaa
set_option linter.unusedVariables false
noncomputable def ref07_Same_b1 (x1 : List Int) (b2 : List Int) (i78 : Int) : Option (Int ⊕ Bool) :=
  if (decide (i78 < (x1.length : Int))) then ((ix x1 i78).bind fun x98 => (ix b2 i78).bind fun x99 => if (!decide (x98 = x99)) then (Option.map Sum.inr (some false)) else (some (Sum.inl (ad i78 1)))) else (Option.map Sum.inr (some true))
noncomputable def ref07_Same_l1 (x1 : List Int) (b2 : List Int) (s : Int) : Option (Bool) := loopO (fun s => ref07_Same_b1 x1 b2 s) s
noncomputable def ref07_Same (x1 : List Int) (b2 : List Int) : Option (Bool) :=
  if (!decide ((x1.length : Int) = (b2.length : Int))) then (some false) else (ref07_Same_l1 x1 b2 0)
noncomputable def law26_known : Option (Bool) :=
  (block_Bytes (([] : List ((List (Int × Int)) × Int × Int)), ([] : List (List (List Int))))).bind fun r33 => (block_Bytes ([([(0, 0), (3, 0)], 0, 1)], ([] : List (List (List Int))))).bind fun r41 => (some ((decide (r33.2 = 0)) && (decide (r41.2 = 0)))).bind fun x45 => (gd x45 (ref07_Same r33.1 [0, 0]) false).bind fun r48 => (gd (x45 && r48) (ref07_Same r41.1 [1, 0, 1, 2, 0, 0, 6, 0, 0]) false).bind fun r51 => some ((x45 && r48) && r51)
noncomputable def law26_BlockMany_k3 (n364 : List (List (List Int))) (want442 : Int) : Option (Bool) :=
  (law26_known).bind fun r445 => (gd r445 (block_Check (([] : List ((List (Int × Int)) × Int × Int)), n364)) 0).bind fun r446 => some (r445 && (decide (r446 = want442)))
noncomputable def law26_BlockMany_b2 (x236 : Int) (x237 : Int) (n364 : List (List (List Int))) (i368 : Int) : Option (((List (List (List Int))) × Int) ⊕ Bool) :=
  (some ((decide (i368 < (IntKind.i64.wrap x237))) && (decide (0 < (IntKind.i64.wrap x236))))).bind fun x404 => if x404 then ((rmK i368 (IntKind.i64.wrap x236)).bind fun x417 => (ix n364 x417).bind fun x419 => (app x419 [[i368]]).bind fun x425 => (ix n364 x417).bind fun x428 => (put n364 x417 x425).bind fun l429 => some (Sum.inl (l429, ad i368 1))) else (Option.map Sum.inr ((some ((decide (0 < (IntKind.i64.wrap x236))) && (decide (64 < (IntKind.i64.wrap x237))))).bind fun x448 => (some ((decide (32 < (IntKind.i64.wrap x236))) || x448)).bind fun x449 => if x449 then (law26_BlockMany_k3 n364 6) else (law26_BlockMany_k3 n364 0)))
noncomputable def law26_BlockMany_l2 (x236 : Int) (x237 : Int) (s : (List (List (List Int))) × Int) : Option (Bool) := loopO (fun s => law26_BlockMany_b2 x236 x237 s.1 s.2) s
noncomputable def law26_BlockMany_b1 (x236 : Int) (x237 : Int) (n272 : List (List (List Int))) (i275 : Int) : Option (((List (List (List Int))) × Int) ⊕ Bool) :=
  if (decide (i275 < (IntKind.i64.wrap x236))) then ((app n272 [([] : List (List Int))]).bind fun x322 => some (Sum.inl (x322, ad i275 1))) else (Option.map Sum.inr (law26_BlockMany_l2 x236 x237 (n272, 0)))
noncomputable def law26_BlockMany_l1 (x236 : Int) (x237 : Int) (s : (List (List (List Int))) × Int) : Option (Bool) := loopO (fun s => law26_BlockMany_b1 x236 x237 s.1 s.2) s
noncomputable def law26_BlockMany (faces1 : Int) (rings2 : Int) : Option (Bool) :=
  (rmK (IntKind.u64.wrap faces1) 41).bind fun x236 => (rmK (IntKind.u64.wrap rings2) 81).bind fun x237 => law26_BlockMany_l1 x236 x237 (([] : List (List (List Int))), 0)
end Go.Proofs.Ytaobbaohelpdgaa
