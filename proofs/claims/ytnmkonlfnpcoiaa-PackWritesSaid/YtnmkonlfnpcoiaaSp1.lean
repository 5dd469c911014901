import Derived.Test.YtnmkonlfnpcoiaaPst
namespace Go.Proofs.Ytnmkonlfnpcoiaa
set_option linter.unusedVariables false
noncomputable def snap_level (z1 : Int) : Option (Bool) :=
  (some ((decide (0 ≤ z1)) && (decide (z1 ≤ 4)))).bind fun x15 => some x15
noncomputable def snap_Side (z1 : Int) : Option (Int × Bool) :=
  (snap_level z1).bind fun r21 => if (!r21) then (some (0, false)) else ((slK .i64 4096 z1).bind fun x25 => some (x25, true))
noncomputable def window_count (z1 : Int) : Option (Int) :=
  (snap_Side z1).bind fun r17 => (quK .i64 r17.1 4096).bind fun x19 => some x19
noncomputable def window_Right (t1 : Int × Int × Int) : Option (Bool) :=
  (window_count t1.1).bind fun r22 => (some ((decide (0 ≤ t1.2.1)) && (decide (t1.2.1 < r22)))).bind fun x24 => (some ((x24 && (decide (0 ≤ t1.2.2))) && (decide (t1.2.2 < r22)))).bind fun x25 => some x25
noncomputable def slices_Clone_pack_Entry_pack_Entry (s1 : List ((Int × Int × Int) × (List Int))) : Option (List ((Int × Int × Int) × (List Int))) :=
  (app ([] : List ((Int × Int × Int) × (List Int))) s1).bind fun x29 => some x29
noncomputable def math_bits_Len64_k3 (x86 : Int) (n87 : Int) : Option (Int) :=
  (ixS (⟨#[0, 1, 2, 2, 3, 3, 3, 3, 4, 4, 4, 4, 4, 4, 4, 4, 5, 5, 5, 5, 5, 5, 5, 5, 5, 5, 5, 5, 5, 5, 5, 5, 6, 6, 6, 6, 6, 6, 6, 6, 6, 6, 6, 6, 6, 6, 6, 6, 6, 6, 6, 6, 6, 6, 6, 6, 6, 6, 6, 6, 6, 6, 6, 6, 7, 7, 7, 7, 7, 7, 7, 7, 7, 7, 7, 7, 7, 7, 7, 7, 7, 7, 7, 7, 7, 7, 7, 7, 7, 7, 7, 7, 7, 7, 7, 7, 7, 7, 7, 7, 7, 7, 7, 7, 7, 7, 7, 7, 7, 7, 7, 7, 7, 7, 7, 7, 7, 7, 7, 7, 7, 7, 7, 7, 7, 7, 7, 7, 8, 8, 8, 8, 8, 8, 8, 8, 8, 8, 8, 8, 8, 8, 8, 8, 8, 8, 8, 8, 8, 8, 8, 8, 8, 8, 8, 8, 8, 8, 8, 8, 8, 8, 8, 8, 8, 8, 8, 8, 8, 8, 8, 8, 8, 8, 8, 8, 8, 8, 8, 8, 8, 8, 8, 8, 8, 8, 8, 8, 8, 8, 8, 8, 8, 8, 8, 8, 8, 8, 8, 8, 8, 8, 8, 8, 8, 8, 8, 8, 8, 8, 8, 8, 8, 8, 8, 8, 8, 8, 8, 8, 8, 8, 8, 8, 8, 8, 8, 8, 8, 8, 8, 8, 8, 8, 8, 8, 8, 8, 8, 8, 8, 8, 8, 8, 8, 8, 8, 8, 8, 8, 8, 8, 8, 8, 8, 8]⟩ : ByteArray) (IntKind.u8.wrap x86)).bind fun x90 => some (ad n87 (IntKind.i64.wrap x90))
noncomputable def math_bits_Len64_k2 (x76 : Int) (n77 : Int) : Option (Int) :=
  if (decide (256 ≤ x76)) then ((srK .u64 x76 8).bind fun x94 => math_bits_Len64_k3 x94 (ad n77 8)) else (math_bits_Len64_k3 x76 n77)
noncomputable def math_bits_Len64_k1 (x66 : Int) (n67 : Int) : Option (Int) :=
  if (decide (65536 ≤ x66)) then ((srK .u64 x66 16).bind fun x99 => math_bits_Len64_k2 x99 (ad n67 16)) else (math_bits_Len64_k2 x66 n67)
noncomputable def math_bits_Len64 (x1 : Int) : Option (Int) :=
  if (decide (4294967296 ≤ x1)) then ((srK .u64 x1 32).bind fun x104 => math_bits_Len64_k1 x104 32) else (math_bits_Len64_k1 x1 0)
noncomputable def math_bits_Len (x1 : Int) : Option (Int) :=
  (math_bits_Len64 x1).bind fun r17 => some r17
noncomputable def sort_insertionSort_func_b2 (Tx : Type) (lf : List Tx → Int → Int → Option Bool) (x1 : Int) (i210 : Int) (j279 : Int) (l280 : List Tx) : Option ((Int × (List Tx)) ⊕ ((Int × (List Tx)) ⊕ (List Tx))) :=
  (gd (decide (x1 < j279)) (lf l280 j279 (sb j279 1)) false).bind fun b296 => if ((decide (x1 < j279)) && b296) then ((swO l280 j279 (sb j279 1)).bind fun l301 => some (Sum.inl (sb j279 1, l301))) else (Option.map Sum.inr (some (Sum.inl (ad i210 1, l280))))
noncomputable def sort_insertionSort_func_l2 (Tx : Type) (lf : List Tx → Int → Int → Option Bool) (x1 : Int) (i210 : Int) (s : Int × (List Tx)) : Option ((Int × (List Tx)) ⊕ (List Tx)) := loopO (fun s => sort_insertionSort_func_b2 Tx lf x1 i210 s.1 s.2) s
noncomputable def sort_insertionSort_func_b1 (Tx : Type) (lf : List Tx → Int → Int → Option Bool) (x1 : Int) (b2 : Int) (i210 : Int) (l211 : List Tx) : Option ((Int × (List Tx)) ⊕ (List Tx)) :=
  if (decide (i210 < b2)) then (sort_insertionSort_func_l2 Tx lf x1 i210 (i210, l211)) else (Option.map Sum.inr (some l211))
noncomputable def sort_insertionSort_func_l1 (Tx : Type) (lf : List Tx → Int → Int → Option Bool) (x1 : Int) (b2 : Int) (s : Int × (List Tx)) : Option (List Tx) := loopO (fun s => sort_insertionSort_func_b1 Tx lf x1 b2 s.1 s.2) s
noncomputable def sort_insertionSort_func (Tx : Type) (lf : List Tx → Int → Int → Option Bool) (l0 : List Tx) (x1 : Int) (b2 : Int) : Option (List Tx) :=
  sort_insertionSort_func_l1 Tx lf x1 b2 (ad x1 1, l0)
noncomputable def sort_siftDown_func_k2 (Tx : Type) (lf : List Tx → Int → Int → Option Bool) (first3 : Int) (root142 : Int) (l143 : List Tx) (child189 : Int) : Option ((Int × (List Tx)) ⊕ (List Tx)) :=
  (lf l143 (ad first3 root142) (ad first3 child189)).bind fun b193 => if (!b193) then (Option.map Sum.inr (some l143)) else ((swO l143 (ad first3 root142) (ad first3 child189)).bind fun l196 => some (Sum.inl (child189, l196)))
noncomputable def sort_siftDown_func_b1 (Tx : Type) (lf : List Tx → Int → Int → Option Bool) (hi2 : Int) (first3 : Int) (root142 : Int) (l143 : List Tx) : Option ((Int × (List Tx)) ⊕ (List Tx)) :=
  if (decide (hi2 ≤ (ad (ml 2 root142) 1))) then (Option.map Sum.inr (some l143)) else ((some (ad (ad first3 (ad (ml 2 root142) 1)) 1)).bind fun x200 => (gd (decide ((ad (ad (ml 2 root142) 1) 1) < hi2)) (lf l143 (ad first3 (ad (ml 2 root142) 1)) x200) false).bind fun b201 => (some ((decide ((ad (ad (ml 2 root142) 1) 1) < hi2)) && b201)).bind fun x202 => if x202 then (sort_siftDown_func_k2 Tx lf first3 root142 l143 (ad (ad (ml 2 root142) 1) 1)) else (sort_siftDown_func_k2 Tx lf first3 root142 l143 (ad (ml 2 root142) 1)))
noncomputable def sort_siftDown_func_l1 (Tx : Type) (lf : List Tx → Int → Int → Option Bool) (hi2 : Int) (first3 : Int) (s : Int × (List Tx)) : Option (List Tx) := loopO (fun s => sort_siftDown_func_b1 Tx lf hi2 first3 s.1 s.2) s
noncomputable def sort_siftDown_func (Tx : Type) (lf : List Tx → Int → Int → Option Bool) (l0 : List Tx) (lo1 : Int) (hi2 : Int) (first3 : Int) : Option (List Tx) :=
  sort_siftDown_func_l1 Tx lf hi2 first3 (lo1, l0)
noncomputable def sort_heapSort_func_b2 (Tx : Type) (lf : List Tx → Int → Int → Option Bool) (x1 : Int) (i160 : Int) (l161 : List Tx) : Option ((Int × (List Tx)) ⊕ (List Tx)) :=
  if (decide (0 ≤ i160)) then ((swO l161 x1 (ad x1 i160)).bind fun l183 => (sort_siftDown_func Tx lf l183 0 i160 x1).bind fun r186 => some (Sum.inl (sb i160 1, r186))) else (Option.map Sum.inr (some l161))
noncomputable def sort_heapSort_func_l2 (Tx : Type) (lf : List Tx → Int → Int → Option Bool) (x1 : Int) (s : Int × (List Tx)) : Option (List Tx) := loopO (fun s => sort_heapSort_func_b2 Tx lf x1 s.1 s.2) s
noncomputable def sort_heapSort_func_b1 (Tx : Type) (lf : List Tx → Int → Int → Option Bool) (x1 : Int) (b2 : Int) (i121 : Int) (l122 : List Tx) : Option ((Int × (List Tx)) ⊕ (List Tx)) :=
  if (decide (0 ≤ i121)) then ((sort_siftDown_func Tx lf l122 i121 (sb b2 x1) x1).bind fun r141 => some (Sum.inl (sb i121 1, r141))) else (Option.map Sum.inr (sort_heapSort_func_l2 Tx lf x1 (sb (sb b2 x1) 1, l122)))
noncomputable def sort_heapSort_func_l1 (Tx : Type) (lf : List Tx → Int → Int → Option Bool) (x1 : Int) (b2 : Int) (s : Int × (List Tx)) : Option (List Tx) := loopO (fun s => sort_heapSort_func_b1 Tx lf x1 b2 s.1 s.2) s
noncomputable def sort_heapSort_func (Tx : Type) (lf : List Tx → Int → Int → Option Bool) (l0 : List Tx) (x1 : Int) (b2 : Int) : Option (List Tx) :=
  (quK .i64 (sb (sb b2 x1) 1) 2).bind fun x108 => sort_heapSort_func_l1 Tx lf x1 b2 (x108, l0)
noncomputable def sort_nextPowerOfTwo (length1 : Int) : Option (Int) :=
  (math_bits_Len (IntKind.u64.wrap length1)).bind fun r17 => (slK .u64 1 (IntKind.u64.wrap r17)).bind fun x19 => some x19
noncomputable def sort_xorshift_Next (r1 : Int) : Option (Int × Int) :=
  (slK .u64 r1 13).bind fun x30 => (srK .u64 (xoK .u64 r1 x30) 7).bind fun x34 => (slK .u64 (xoK .u64 (xoK .u64 r1 x30) x34) 17).bind fun x39 => (some (xoK .u64 (xoK .u64 (xoK .u64 r1 x30) x34) x39)).bind fun x40 => some (x40, x40)
noncomputable def sort_breakPatterns_func_k2 (Tx : Type) (x1 : Int) (idx150 : Int) (l151 : List Tx) (r186 : Int × Int) (other194 : Int) : Option ((Int × Int × (List Tx)) ⊕ (List Tx)) :=
  (swO l151 idx150 (ad x1 other194)).bind fun l197 => some (Sum.inl (r186.2, ad idx150 1, l197))
noncomputable def sort_breakPatterns_func_b1 (Tx : Type) (x1 : Int) (b2 : Int) (r118 : Int) (random149 : Int) (idx150 : Int) (l151 : List Tx) : Option ((Int × Int × (List Tx)) ⊕ (List Tx)) :=
  (quK .i64 (sb b2 x1) 4).bind fun x181 => if (decide (idx150 ≤ (ad (ad x1 (ml x181 2)) 1))) then ((sort_xorshift_Next random149).bind fun r186 => (some (IntKind.i64.wrap (anK .u64 r186.1 (sbK .u64 r118 1)))).bind fun x188 => if (decide ((sb b2 x1) ≤ x188)) then (sort_breakPatterns_func_k2 Tx x1 idx150 l151 r186 (sb x188 (sb b2 x1))) else (sort_breakPatterns_func_k2 Tx x1 idx150 l151 r186 x188)) else (Option.map Sum.inr (some l151))
noncomputable def sort_lreakPatterns_func_l1 (Tx : Type) (x1 : Int) (b2 : Int) (r118 : Int) (s : Int × Int × (List Tx)) : Option (List Tx) := loopO (fun s => sort_breakPatterns_func_b1 Tx x1 b2 r118 s.1 s.2.1 s.2.2) s
noncomputable def sort_breakPatterns_func (Tx : Type) (lf : List Tx → Int → Int → Option Bool) (l0 : List Tx) (x1 : Int) (b2 : Int) : Option (List Tx) :=
  if (decide (8 ≤ (sb b2 x1))) then ((sort_nextPowerOfTwo (sb b2 x1)).bind fun r118 => (quK .i64 (sb b2 x1) 4).bind fun x120 => sort_lreakPatterns_func_l1 Tx x1 b2 r118 (IntKind.u64.wrap (sb b2 x1), sb (ad x1 (ml x120 2)) 1, l0)) else (some l0)
end Go.Proofs.Ytnmkonlfnpcoiaa
