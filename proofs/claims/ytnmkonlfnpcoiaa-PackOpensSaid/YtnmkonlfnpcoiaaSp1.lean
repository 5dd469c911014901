import Derived.Test.YtnmkonlfnpcoiaaPst
namespace Go.Proofs.Ytnmkonlfnpcoiaa
set_option linter.unusedVariables false
noncomputable def snap_level (b : Int) : Option (Bool) :=
  (some ((decide (0 ≤ b)) && (decide (b ≤ 4)))).bind fun a => some a
noncomputable def snap_Side (c : Int) : Option (Int × Bool) :=
  (snap_level c).bind fun a => if (!a) then (some (0, false)) else ((slK .i64 4096 c).bind fun b => some (b, true))
noncomputable def window_count (c : Int) : Option (Int) :=
  (snap_Side c).bind fun a => (quK .i64 a.1 4096).bind fun b => some b
noncomputable def window_Right (b : Int × Int × Int) : Option (Bool) :=
  (window_count b.1).bind fun a => (some ((decide (0 ≤ b.2.1)) && (decide (b.2.1 < a)))).bind fun c => (some ((c && (decide (0 ≤ b.2.2))) && (decide (b.2.2 < a)))).bind fun d => some d
noncomputable def slices_Clone_pack_Entry_pack_Entry (b : List ((Int × Int × Int) × (List Int))) : Option (List ((Int × Int × Int) × (List Int))) :=
  (app ([] : List ((Int × Int × Int) × (List Int))) b).bind fun a => some a
noncomputable def math_bits_Len64_k3 (b : Int) (a : Int) : Option (Int) :=
  (ixS (⟨#[0, 1, 2, 2, 3, 3, 3, 3, 4, 4, 4, 4, 4, 4, 4, 4, 5, 5, 5, 5, 5, 5, 5, 5, 5, 5, 5, 5, 5, 5, 5, 5, 6, 6, 6, 6, 6, 6, 6, 6, 6, 6, 6, 6, 6, 6, 6, 6, 6, 6, 6, 6, 6, 6, 6, 6, 6, 6, 6, 6, 6, 6, 6, 6, 7, 7, 7, 7, 7, 7, 7, 7, 7, 7, 7, 7, 7, 7, 7, 7, 7, 7, 7, 7, 7, 7, 7, 7, 7, 7, 7, 7, 7, 7, 7, 7, 7, 7, 7, 7, 7, 7, 7, 7, 7, 7, 7, 7, 7, 7, 7, 7, 7, 7, 7, 7, 7, 7, 7, 7, 7, 7, 7, 7, 7, 7, 7, 7, 8, 8, 8, 8, 8, 8, 8, 8, 8, 8, 8, 8, 8, 8, 8, 8, 8, 8, 8, 8, 8, 8, 8, 8, 8, 8, 8, 8, 8, 8, 8, 8, 8, 8, 8, 8, 8, 8, 8, 8, 8, 8, 8, 8, 8, 8, 8, 8, 8, 8, 8, 8, 8, 8, 8, 8, 8, 8, 8, 8, 8, 8, 8, 8, 8, 8, 8, 8, 8, 8, 8, 8, 8, 8, 8, 8, 8, 8, 8, 8, 8, 8, 8, 8, 8, 8, 8, 8, 8, 8, 8, 8, 8, 8, 8, 8, 8, 8, 8, 8, 8, 8, 8, 8, 8, 8, 8, 8, 8, 8, 8, 8, 8, 8, 8, 8, 8, 8, 8, 8, 8, 8, 8, 8, 8, 8, 8, 8]⟩ : ByteArray) (IntKind.u8.wrap b)).bind fun c => some (ad a (IntKind.i64.wrap c))
noncomputable def math_bits_Len64_k2 (a : Int) (b : Int) : Option (Int) :=
  if (decide (256 ≤ a)) then ((srK .u64 a 8).bind fun c => math_bits_Len64_k3 c (ad b 8)) else (math_bits_Len64_k3 a b)
noncomputable def math_bits_Len64_k1 (a : Int) (b : Int) : Option (Int) :=
  if (decide (65536 ≤ a)) then ((srK .u64 a 16).bind fun c => math_bits_Len64_k2 c (ad b 16)) else (math_bits_Len64_k2 a b)
noncomputable def math_bits_Len64 (b : Int) : Option (Int) :=
  if (decide (4294967296 ≤ b)) then ((srK .u64 b 32).bind fun a => math_bits_Len64_k1 a 32) else (math_bits_Len64_k1 b 0)
noncomputable def math_bits_Len (b : Int) : Option (Int) :=
  (math_bits_Len64 b).bind fun a => some a
noncomputable def sort_insertionSort_func_b2 (Tx : Type) (lf : List Tx → Int → Int → Option Bool) (f : Int) (d : Int) (a : Int) (b : List Tx) : Option ((Int × (List Tx)) ⊕ ((Int × (List Tx)) ⊕ (List Tx))) :=
  (gd (decide (f < a)) (lf b a (sb a 1)) false).bind fun c => if ((decide (f < a)) && c) then ((swO b a (sb a 1)).bind fun e => some (Sum.inl (sb a 1, e))) else (Option.map Sum.inr (some (Sum.inl (ad d 1, b))))
noncomputable def sort_insertionSort_func_l2 (Tx : Type) (lf : List Tx → Int → Int → Option Bool) (b : Int) (a : Int) (s : Int × (List Tx)) : Option ((Int × (List Tx)) ⊕ (List Tx)) := loopO (fun s => sort_insertionSort_func_b2 Tx lf b a s.1 s.2) s
noncomputable def sort_insertionSort_func_b1 (Tx : Type) (lf : List Tx → Int → Int → Option Bool) (d : Int) (c : Int) (a : Int) (b : List Tx) : Option ((Int × (List Tx)) ⊕ (List Tx)) :=
  if (decide (a < c)) then (sort_insertionSort_func_l2 Tx lf d a (a, b)) else (Option.map Sum.inr (some b))
noncomputable def sort_insertionSort_func_l1 (Tx : Type) (lf : List Tx → Int → Int → Option Bool) (b : Int) (a : Int) (s : Int × (List Tx)) : Option (List Tx) := loopO (fun s => sort_insertionSort_func_b1 Tx lf b a s.1 s.2) s
noncomputable def sort_insertionSort_func (Tx : Type) (lf : List Tx → Int → Int → Option Bool) (c : List Tx) (a : Int) (b : Int) : Option (List Tx) :=
  sort_insertionSort_func_l1 Tx lf a b (ad a 1, c)
noncomputable def sort_siftDown_func_k2 (Tx : Type) (lf : List Tx → Int → Int → Option Bool) (b : Int) (c : Int) (d : List Tx) (a : Int) : Option ((Int × (List Tx)) ⊕ (List Tx)) :=
  (lf d (ad b c) (ad b a)).bind fun e => if (!e) then (Option.map Sum.inr (some d)) else ((swO d (ad b c) (ad b a)).bind fun f => some (Sum.inl (a, f)))
noncomputable def sort_siftDown_func_b1 (Tx : Type) (lf : List Tx → Int → Int → Option Bool) (d : Int) (b : Int) (a : Int) (c : List Tx) : Option ((Int × (List Tx)) ⊕ (List Tx)) :=
  if (decide (d ≤ (ad (ml 2 a) 1))) then (Option.map Sum.inr (some c)) else ((some (ad (ad b (ad (ml 2 a) 1)) 1)).bind fun f => (gd (decide ((ad (ad (ml 2 a) 1) 1) < d)) (lf c (ad b (ad (ml 2 a) 1)) f) false).bind fun e => (some ((decide ((ad (ad (ml 2 a) 1) 1) < d)) && e)).bind fun g => if g then (sort_siftDown_func_k2 Tx lf b a c (ad (ad (ml 2 a) 1) 1)) else (sort_siftDown_func_k2 Tx lf b a c (ad (ml 2 a) 1)))
noncomputable def sort_siftDown_func_l1 (Tx : Type) (lf : List Tx → Int → Int → Option Bool) (b : Int) (a : Int) (s : Int × (List Tx)) : Option (List Tx) := loopO (fun s => sort_siftDown_func_b1 Tx lf b a s.1 s.2) s
noncomputable def sort_siftDown_func (Tx : Type) (lf : List Tx → Int → Int → Option Bool) (d : List Tx) (c : Int) (b : Int) (a : Int) : Option (List Tx) :=
  sort_siftDown_func_l1 Tx lf b a (c, d)
noncomputable def sort_heapSort_func_b2 (Tx : Type) (lf : List Tx → Int → Int → Option Bool) (e : Int) (a : Int) (b : List Tx) : Option ((Int × (List Tx)) ⊕ (List Tx)) :=
  if (decide (0 ≤ a)) then ((swO b e (ad e a)).bind fun c => (sort_siftDown_func Tx lf c 0 a e).bind fun d => some (Sum.inl (sb a 1, d))) else (Option.map Sum.inr (some b))
noncomputable def sort_heapSort_func_l2 (Tx : Type) (lf : List Tx → Int → Int → Option Bool) (a : Int) (s : Int × (List Tx)) : Option (List Tx) := loopO (fun s => sort_heapSort_func_b2 Tx lf a s.1 s.2) s
noncomputable def sort_heapSort_func_b1 (Tx : Type) (lf : List Tx → Int → Int → Option Bool) (d : Int) (e : Int) (a : Int) (b : List Tx) : Option ((Int × (List Tx)) ⊕ (List Tx)) :=
  if (decide (0 ≤ a)) then ((sort_siftDown_func Tx lf b a (sb e d) d).bind fun c => some (Sum.inl (sb a 1, c))) else (Option.map Sum.inr (sort_heapSort_func_l2 Tx lf d (sb (sb e d) 1, b)))
noncomputable def sort_heapSort_func_l1 (Tx : Type) (lf : List Tx → Int → Int → Option Bool) (b : Int) (a : Int) (s : Int × (List Tx)) : Option (List Tx) := loopO (fun s => sort_heapSort_func_b1 Tx lf b a s.1 s.2) s
noncomputable def sort_heapSort_func (Tx : Type) (lf : List Tx → Int → Int → Option Bool) (d : List Tx) (c : Int) (b : Int) : Option (List Tx) :=
  (quK .i64 (sb (sb b c) 1) 2).bind fun a => sort_heapSort_func_l1 Tx lf c b (a, d)
noncomputable def sort_nextPowerOfTwo (a : Int) : Option (Int) :=
  (math_bits_Len (IntKind.u64.wrap a)).bind fun b => (slK .u64 1 (IntKind.u64.wrap b)).bind fun c => some c
noncomputable def sort_xorshift_Next (d : Int) : Option (Int × Int) :=
  (slK .u64 d 13).bind fun a => (srK .u64 (xoK .u64 d a) 7).bind fun b => (slK .u64 (xoK .u64 (xoK .u64 d a) b) 17).bind fun e => (some (xoK .u64 (xoK .u64 (xoK .u64 d a) b) e)).bind fun c => some (c, c)
noncomputable def sort_breakPatterns_func_k2 (Tx : Type) (f : Int) (a : Int) (c : List Tx) (e : Int × Int) (b : Int) : Option ((Int × Int × (List Tx)) ⊕ (List Tx)) :=
  (swO c a (ad f b)).bind fun d => some (Sum.inl (e.2, ad a 1, d))
noncomputable def sort_breakPatterns_func_b1 (Tx : Type) (f : Int) (i : Int) (g : Int) (b : Int) (a : Int) (c : List Tx) : Option ((Int × Int × (List Tx)) ⊕ (List Tx)) :=
  (quK .i64 (sb i f) 4).bind fun h => if (decide (a ≤ (ad (ad f (ml h 2)) 1))) then ((sort_xorshift_Next b).bind fun d => (some (IntKind.i64.wrap (anK .u64 d.1 (sbK .u64 g 1)))).bind fun e => if (decide ((sb i f) ≤ e)) then (sort_breakPatterns_func_k2 Tx f a c d (sb e (sb i f))) else (sort_breakPatterns_func_k2 Tx f a c d e)) else (Option.map Sum.inr (some c))
noncomputable def sort_lreakPatterns_func_l1 (Tx : Type) (c : Int) (b : Int) (a : Int) (s : Int × Int × (List Tx)) : Option (List Tx) := loopO (fun s => sort_breakPatterns_func_b1 Tx c b a s.1 s.2.1 s.2.2) s
noncomputable def sort_breakPatterns_func (Tx : Type) (lf : List Tx → Int → Int → Option Bool) (e : List Tx) (a : Int) (b : Int) : Option (List Tx) :=
  if (decide (8 ≤ (sb b a))) then ((sort_nextPowerOfTwo (sb b a)).bind fun c => (quK .i64 (sb b a) 4).bind fun d => sort_lreakPatterns_func_l1 Tx a b c (IntKind.u64.wrap (sb b a), sb (ad a (ml d 2)) 1, e)) else (some e)
end Go.Proofs.Ytnmkonlfnpcoiaa
