import Derived.Test.YtpbhdblkjabdlaaSp2
import Derived.Test.YtpbhdblkjabdlaaSp3
import Derived.Test.YtpbhdblkjabdlaaSp4
import Derived.Test.YtpbhdblkjabdlaaSp6
namespace Go.Proofs.Ytpbhdblkjabdlaa
set_option linter.unusedVariables false
noncomputable def ref09_First_b4 (s1 : ByteArray) (size171 : Int) (least173 : Int) (r201 : Int) (i202 : Int) : Option ((Int × Int) ⊕ (Int × Int)) :=
  if (decide (i202 < size171)) then ((ixS s1 i202).bind fun x228 => (gd (!(decide (x228 < 128))) (ixS s1 i202) 0).bind fun x229 => (some ((decide (x228 < 128)) || (decide (192 ≤ x229)))).bind fun x230 => if x230 then (Option.map Sum.inr (some (0, 0))) else ((ixS s1 i202).bind fun x234 => (some (ad (ml 64 r201) (IntKind.i64.wrap x234))).bind fun x235 => some (Sum.inl (sb x235 128, ad i202 1)))) else (Option.map Sum.inr ((some ((decide (r201 < least173)) || (decide (1114111 < r201)))).bind fun x239 => (some ((decide (55296 ≤ r201)) && (decide (r201 ≤ 57343)))).bind fun x240 => if (x239 || x240) then (some (0, 0)) else (some (r201, size171))))
noncomputable def ref09_First_l4 (s1 : ByteArray) (size171 : Int) (least173 : Int) (s : Int × Int) : Option (Int × Int) := loopO (fun s => ref09_First_b4 s1 size171 least173 s.1 s.2) s
noncomputable def ref09_First_k3 (s1 : ByteArray) (size171 : Int) (r172 : Int) (least173 : Int) : Option (Int × Int) :=
  (some ((decide (size171 = 0)) || (decide ((s1.size : Int) < size171)))).bind fun x177 => if x177 then (some (0, 0)) else (ref09_First_l4 s1 size171 least173 (r172, 1))
noncomputable def ref09_First_k2 (s1 : ByteArray) (x139 : Int) (size161 : Int) (r162 : Int) (least163 : Int) : Option (Int × Int) :=
  (some ((decide (240 ≤ (IntKind.i64.wrap x139))) && (decide ((IntKind.i64.wrap x139) < 248)))).bind fun x245 => if x245 then (ref09_First_k3 s1 4 (sb (IntKind.i64.wrap x139) 240) 65536) else (ref09_First_k3 s1 size161 r162 least163)
noncomputable def ref09_First_k1 (s1 : ByteArray) (x139 : Int) (size151 : Int) (r152 : Int) (least153 : Int) : Option (Int × Int) :=
  (some ((decide (224 ≤ (IntKind.i64.wrap x139))) && (decide ((IntKind.i64.wrap x139) < 240)))).bind fun x249 => if x249 then (ref09_First_k2 s1 x139 3 (sb (IntKind.i64.wrap x139) 224) 2048) else (ref09_First_k2 s1 x139 size151 r152 least153)
noncomputable def ref09_First (s1 : ByteArray) : Option (Int × Int) :=
  if (decide ((s1.size : Int) = 0)) then (some (0, 0)) else ((ixS s1 0).bind fun x139 => if (decide ((IntKind.i64.wrap x139) < 128)) then (some (IntKind.i64.wrap x139, 1)) else ((some ((decide (192 ≤ (IntKind.i64.wrap x139))) && (decide ((IntKind.i64.wrap x139) < 224)))).bind fun x253 => if x253 then (ref09_First_k1 s1 x139 2 (sb (IntKind.i64.wrap x139) 192) 128) else (ref09_First_k1 s1 x139 0 0 0)))
noncomputable def ref09_Runes_b1 (s1 : ByteArray) (out152 : List Int) (x156 : List Int) (i158 : Int) : Option (((List Int) × (List Int) × Int) ⊕ ((List Int) × (List Int) × Bool)) :=
  if (decide (i158 < (s1.size : Int))) then ((cutS s1 i158 (s1.size : Int)).bind fun x198 => (ref09_First x198).bind fun r199 => if (decide (r199.2 = 0)) then (Option.map Sum.inr (some (([] : List Int), ([] : List Int), false))) else ((app out152 [r199.1]).bind fun x216 => (app x156 [i158]).bind fun x221 => some (Sum.inl (x216, x221, ad i158 r199.2)))) else (Option.map Sum.inr (some (out152, x156, true)))
noncomputable def ref09_Runes_l1 (s1 : ByteArray) (s : (List Int) × (List Int) × Int) : Option ((List Int) × (List Int) × Bool) := loopO (fun s => ref09_Runes_b1 s1 s.1 s.2.1 s.2.2) s
noncomputable def ref09_Runes (s1 : ByteArray) : Option ((List Int) × (List Int) × Bool) :=
  ref09_Runes_l1 s1 (([] : List Int), ([] : List Int), 0)
noncomputable def ref09_Name_b1 (r93 : (List Int) × (List Int) × Bool) (i128 : Int) : Option (Int ⊕ Bool) :=
  if (decide (i128 < (r93.1.length : Int))) then ((ix r93.1 i128).bind fun x157 => (some ((decide (96 < x157)) && (decide (x157 < 123)))).bind fun x159 => (some ((decide (64 < x157)) && (decide (x157 < 91)))).bind fun x160 => (some ((x159 || x160) || (decide (x157 = 95)))).bind fun x161 => (some ((decide (x157 = 45)) || (decide (x157 = 46)))).bind fun x163 => (some ((decide (47 < x157)) && (decide (x157 < 58)))).bind fun x164 => (some ((decide (i128 = 0)) || (!(x163 || x164)))).bind fun x166 => (some ((!(x161 || (decide (127 < x157)))) && x166)).bind fun x167 => if x167 then (Option.map Sum.inr (some false)) else (some (Sum.inl (ad i128 1)))) else (Option.map Sum.inr (some true))
noncomputable def ref09_Name_l1 (r93 : (List Int) × (List Int) × Bool) (s : Int) : Option (Bool) := loopO (fun s => ref09_Name_b1 r93 s) s
noncomputable def ref09_Name (s1 : ByteArray) : Option (Bool) :=
  (ref09_Runes s1).bind fun r93 => (some ((!r93.2.2) || (decide ((r93.1.length : Int) < 1)))).bind fun x100 => (some (x100 || (decide (32 < (r93.1.length : Int))))).bind fun x101 => if x101 then (some false) else (ref09_Name_l1 r93 0)
noncomputable def ref11_Key_b1 (l1 : List ByteArray) (s2 : ByteArray) (n54 : Int) : Option (Int ⊕ Int) :=
  (gd (decide (n54 < (l1.length : Int))) (ix l1 n54) ByteArray.empty).bind fun x66 => (some ((decide (n54 < (l1.length : Int))) && (!eqS x66 s2))).bind fun x67 => if x67 then (some (Sum.inl (ad n54 1))) else (Option.map Sum.inr (some n54))
noncomputable def ref11_Key_l1 (l1 : List ByteArray) (s2 : ByteArray) (s : Int) : Option (Int) := loopO (fun s => ref11_Key_b1 l1 s2 s) s
noncomputable def ref11_Key (l1 : List ByteArray) (s2 : ByteArray) : Option (Int) :=
  ref11_Key_l1 l1 s2 0
noncomputable def ref10_Check (v1 : Int × ByteArray × Int) : Option (Int) :=
  (some ((decide (v1.1 < 1)) || (decide (4 < v1.1)))).bind fun x51 => if x51 then (some 14) else ((some ((decide (v1.1 = 1)) && (!decide (v1.2.2 = 0)))).bind fun x56 => (some ((decide (1 < v1.1)) && (!eqS v1.2.1 ByteArray.empty))).bind fun x57 => if (x56 || x57) then (some 3) else ((ref09_Runes v1.2.1).bind fun r61 => if (!r61.2.2) then (some 13) else (if (decide (64 < (v1.2.1.size : Int))) then (some 2) else ((some ((decide (1152921504606846976 < v1.2.2)) || (decide (v1.2.2 < (-1152921504606846976))))).bind fun x76 => (some ((decide (v1.2.2 < 0)) && (!decide (v1.1 = 3)))).bind fun x77 => (some ((decide (1 < v1.2.2)) && (decide (v1.1 = 4)))).bind fun x78 => if ((x76 || x77) || x78) then (some 5) else (some 0)))))
noncomputable def ref11_Value_b1 (l1 : List (Int × ByteArray × Int)) (v2 : Int × ByteArray × Int) (n58 : Int) : Option (Int ⊕ Int) :=
  (gd (decide (n58 < (l1.length : Int))) (ix l1 n58) (0, ByteArray.empty, 0)).bind fun x70 => (some ((decide (n58 < (l1.length : Int))) && (!decide (x70 = v2)))).bind fun x71 => if x71 then (some (Sum.inl (ad n58 1))) else (Option.map Sum.inr (some n58))
noncomputable def ref11_Value_l1 (l1 : List (Int × ByteArray × Int)) (v2 : Int × ByteArray × Int) (s : Int) : Option (Int) := loopO (fun s => ref11_Value_b1 l1 v2 s) s
noncomputable def ref11_Value (l1 : List (Int × ByteArray × Int)) (v2 : Int × ByteArray × Int) : Option (Int) :=
  ref11_Value_l1 l1 v2 0
noncomputable def ref11_Wrong_b2 (t1 : (List ByteArray) × (List (Int × ByteArray × Int))) (i220 : Int) : Option (Int ⊕ Int) :=
  if (decide (i220 < (t1.2.length : Int))) then ((ix t1.2 i220).bind fun x247 => (ref10_Check x247).bind fun r248 => if (!decide (r248 = 0)) then (Option.map Sum.inr (some r248)) else ((ix t1.2 i220).bind fun x254 => (ref11_Value t1.2 x254).bind fun r255 => if (decide (r255 < i220)) then (Option.map Sum.inr (some 8)) else (some (Sum.inl (ad i220 1))))) else (Option.map Sum.inr (some 0))
noncomputable def ref11_Wrong_l2 (t1 : (List ByteArray) × (List (Int × ByteArray × Int))) (s : Int) : Option (Int) := loopO (fun s => ref11_Wrong_b2 t1 s) s
noncomputable def ref11_Wrong_b1 (t1 : (List ByteArray) × (List (Int × ByteArray × Int))) (i160 : Int) : Option (Int ⊕ Int) :=
  if (decide (i160 < (t1.1.length : Int))) then ((ix t1.1 i160).bind fun x187 => (ref09_Name x187).bind fun r188 => if (!r188) then (Option.map Sum.inr (some 13)) else ((ix t1.1 i160).bind fun x192 => (ref11_Key t1.1 x192).bind fun r193 => if (decide (r193 < i160)) then (Option.map Sum.inr (some 8)) else (some (Sum.inl (ad i160 1))))) else (Option.map Sum.inr (ref11_Wrong_l2 t1 0))
noncomputable def ref11_Wrong_l1 (t1 : (List ByteArray) × (List (Int × ByteArray × Int))) (s : Int) : Option (Int) := loopO (fun s => ref11_Wrong_b1 t1 s) s
noncomputable def ref11_Wrong (t1 : (List ByteArray) × (List (Int × ByteArray × Int))) : Option (Int) :=
  ref11_Wrong_l1 t1 0
end Go.Proofs.Ytpbhdblkjabdlaa
