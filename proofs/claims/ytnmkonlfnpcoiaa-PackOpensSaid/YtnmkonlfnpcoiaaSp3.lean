import Derived.Test.YtnmkonlfnpcoiaaSp2
namespace Go.Proofs.Ytnmkonlfnpcoiaa
set_option linter.unusedVariables false
noncomputable def sort_pdqsort_func_k2 (Tx : Type) (f : Int) (d : Int) (c : Int) (a : Bool) (b : Bool) (e : List Tx) : Option ((Int × Int × Int × Bool × Bool × (List Tx)) ⊕ (List Tx)) :=
  some (Sum.inl (f, d, c, a, b, e))
noncomputable def sort_pdqsort_func_k5 (Tx : Type) (lf : List Tx → Int → Int → Option Bool) (rf : (List Tx) → Int → Int → Int → Option (List Tx)) (c : Int) (d : Int) (f : Bool) (g : Bool) (b : Int) (e : Int) (h : List Tx) : Option ((Int × Int × Int × Bool × Bool × (List Tx)) ⊕ (List Tx)) :=
  (gd (decide (0 < c)) (lf h (sb c 1) e) false).bind fun k => if ((decide (0 < c)) && (!k)) then ((sort_partitionEqual_func Tx lf h c d e).bind fun i => sort_pdqsort_func_k2 Tx i.1 d b f g i.2) else ((sort_partition_func Tx lf h c d e).bind fun a => (quK .i64 (sb d c) 8).bind fun j => if (decide ((sb a.1 c) < (sb d a.1))) then ((rf a.2.2 c a.1 b).bind fun l => sort_pdqsort_func_k2 Tx (ad a.1 1) d b (decide (j ≤ (sb a.1 c))) a.2.1 l) else ((rf a.2.2 (ad a.1 1) d b).bind fun m => sort_pdqsort_func_k2 Tx c a.1 b (decide (j ≤ (sb d a.1))) a.2.1 m))
noncomputable def sort_pdqsort_func_k4 (Tx : Type) (lf : List Tx → Int → Int → Option Bool) (rf : (List Tx) → Int → Int → Int → Option (List Tx)) (g : Int) (e : Int) (a : Bool) (b : Bool) (c : Int) (d : Int) (h : Int) (i : List Tx) : Option ((Int × Int × Int × Bool × Bool × (List Tx)) ⊕ (List Tx)) :=
  (some ((a && b) && (decide (h = 1)))).bind fun j => if j then ((sort_partialInsertionSort_func Tx lf i g e).bind fun f => if f.1 then (Option.map Sum.inr (some f.2)) else (sort_pdqsort_func_k5 Tx lf rf g e a b c d f.2)) else (sort_pdqsort_func_k5 Tx lf rf g e a b c d i)
noncomputable def sort_pdqsort_func_k3 (Tx : Type) (lf : List Tx → Int → Int → Option Bool) (rf : (List Tx) → Int → Int → Int → Option (List Tx)) (f : Int) (d : Int) (a : Bool) (b : Bool) (e : Int) (g : List Tx) : Option ((Int × Int × Int × Bool × Bool × (List Tx)) ⊕ (List Tx)) :=
  (sort_choosePivot_func Tx lf g f d).bind fun c => if (decide (c.2.1 = 2)) then ((sort_reverseRange_func Tx lf c.2.2 f d).bind fun h => sort_pdqsort_func_k4 Tx lf rf f d a b e (sb (sb d 1) (sb c.1 f)) 1 h) else (sort_pdqsort_func_k4 Tx lf rf f d a b e c.1 c.2.1 c.2.2)
noncomputable def sort_pdqsort_func_b1 (Tx : Type) (lf : List Tx → Int → Int → Option Bool) (rf : (List Tx) → Int → Int → Int → Option (List Tx)) (e : Int) (d : Int) (c : Int) (a : Bool) (b : Bool) (f : List Tx) : Option ((Int × Int × Int × Bool × Bool × (List Tx)) ⊕ (List Tx)) :=
  if (decide ((sb d e) ≤ 12)) then ((sort_insertionSort_func Tx lf f e d).bind fun g => Option.map Sum.inr (some g)) else (if (decide (c = 0)) then ((sort_heapSort_func Tx lf f e d).bind fun h => Option.map Sum.inr (some h)) else (if (!a) then ((sort_breakPatterns_func Tx lf f e d).bind fun i => sort_pdqsort_func_k3 Tx lf rf e d a b (sb c 1) i) else (sort_pdqsort_func_k3 Tx lf rf e d a b c f)))
noncomputable def sort_pdqsort_func_l1 (Tx : Type) (lf : List Tx → Int → Int → Option Bool) (rf : (List Tx) → Int → Int → Int → Option (List Tx)) (s : Int × Int × Int × Bool × Bool × (List Tx)) : Option (List Tx) := loopO (fun s => sort_pdqsort_func_b1 Tx lf rf s.1 s.2.1 s.2.2.1 s.2.2.2.1 s.2.2.2.2.1 s.2.2.2.2.2) s
noncomputable def sort_pdqsort_func_r (Tx : Type) (lf : List Tx → Int → Int → Option Bool) : Nat → (List Tx) → Int → Int → Int → Option (List Tx)
  | 0, _, _, _, _ => none
  | fu + 1, c, d, b, a =>
    sort_pdqsort_func_l1 Tx lf (sort_pdqsort_func_r Tx lf fu) (d, b, a, true, true, c)
noncomputable def sort_pdqsort_func (fu : Nat) (Tx : Type) (lf : List Tx → Int → Int → Option Bool) (c : List Tx) (d : Int) (b : Int) (a : Int) : Option (List Tx) := sort_pdqsort_func_r Tx lf fu c d b a
noncomputable def exact_Less (b : Int × Int) (a : Int × Int) : Option (Bool) :=
  (some ((decide (b.1 = a.1)) && (decide (b.2 < a.2)))).bind fun c => some ((decide (b.1 < a.1)) || c)
noncomputable def window_Less (c : Int × Int × Int) (a : Int × Int × Int) : Option (Bool) :=
  if (!decide (c.1 = a.1)) then (some (decide (c.1 < a.1))) else ((exact_Less c.2 a.2).bind fun b => some b)
noncomputable def pack_packed_1 (e : Int) (f : Int) (d : List ((Int × Int × Int) × (List Int))) : Option (Bool) :=
  (ix d e).bind fun b => (ix d f).bind fun c => (window_Less b.1 c.1).bind fun a => some a
noncomputable def sortAll23_48 (l : List ((Int × Int × Int) × (List Int))) : Option (List ((Int × Int × Int) × (List Int))) := srtO (fun l a b m => sort_pdqsort_func 12 ((Int × Int × Int) × (List Int)) (fun (l : List ((Int × Int × Int) × (List Int))) i j => pack_packed_1 i j l) l a b m) l
theorem sortAll23_48_len {l l' : List ((Int × Int × Int) × (List Int))} (h : sortAll23_48 l = some l') : l'.length = l.length := srtO_len h
noncomputable def pack_packed_k3 (c : List ((Int × Int × Int) × Int)) (e : Int) (f : (Int × Int × Int) × (List Int)) (d : List (List Int)) (a : List (ByteArray × Int)) (b : Int) : Option (((List (List Int)) × (List ((Int × Int × Int) × Int)) × (List (ByteArray × Int)) × Int) ⊕ ((((List Int) × (List (List Int)) × (List ((Int × Int × Int) × Int))) × Int) ⊕ (Unit × Int))) :=
  (app c [(f.1, b)]).bind fun g => some (Sum.inl (d, g, a, ad e 1))
noncomputable def pack_packed_b2 (g : List Int) (f : List ((Int × Int × Int) × (List Int))) (c : List (List Int)) (e : List ((Int × Int × Int) × Int)) (a : List (ByteArray × Int)) (d : Int) : Option (((List (List Int)) × (List ((Int × Int × Int) × Int)) × (List (ByteArray × Int)) × Int) ⊕ ((((List Int) × (List (List Int)) × (List ((Int × Int × Int) × Int))) × Int) ⊕ (Unit × Int))) :=
  if (decide (d < (f.length : Int))) then ((ix f d).bind fun b => if (!((lkM a (bsS b.2)).isSome)) then ((some (upM a (bsS b.2) (c.length : Int))).bind fun h => (app c [b.2]).bind fun i => pack_packed_k3 e d b i h (c.length : Int)) else (pack_packed_k3 e d b c a ((lkM a (bsS b.2)).getD 0))) else (Option.map Sum.inr (some (Sum.inl ((g, c, e), 0))))
noncomputable def pack_packed_l2 (a : List Int) (b : List ((Int × Int × Int) × (List Int))) (s : (List (List Int)) × (List ((Int × Int × Int) × Int)) × (List (ByteArray × Int)) × Int) : Option ((((List Int) × (List (List Int)) × (List ((Int × Int × Int) × Int))) × Int) ⊕ (Unit × Int)) := loopO (fun s => pack_packed_b2 a b s.1 s.2.1 s.2.2.1 s.2.2.2) s
noncomputable def pack_packed_b1 (d : List Int) (i : List ((Int × Int × Int) × (List Int))) (a : List ((Int × Int × Int) × Bool)) (b : Int) : Option (((List ((Int × Int × Int) × Bool)) × Int) ⊕ ((((List Int) × (List (List Int)) × (List ((Int × Int × Int) × Int))) × Int) ⊕ (Unit × Int))) :=
  if (decide (b < (i.length : Int))) then ((ix i b).bind fun c => (window_Right c.1).bind fun g => if (!g) then (Option.map Sum.inr (some (Sum.inr ((), 5)))) else (if (lkM a c.1).getD false then (Option.map Sum.inr (some (Sum.inr ((), 8)))) else ((some (upM a c.1 true)).bind fun e => some (Sum.inl (e, ad b 1))))) else (Option.map Sum.inr ((slices_Clone_pack_Entry_pack_Entry i).bind fun h => (sortAll23_48 h).bind fun f => pack_packed_l2 d f (([] : List (List Int)), ([] : List ((Int × Int × Int) × Int)), ([] : List (ByteArray × Int)), 0)))
noncomputable def pack_packed_l1 (a : List Int) (b : List ((Int × Int × Int) × (List Int))) (s : (List ((Int × Int × Int) × Bool)) × Int) : Option ((((List Int) × (List (List Int)) × (List ((Int × Int × Int) × Int))) × Int) ⊕ (Unit × Int)) := loopO (fun s => pack_packed_b1 a b s.1 s.2) s
noncomputable def pack_packed (a : List Int) (b : List ((Int × Int × Int) × (List Int))) : Option ((((List Int) × (List (List Int)) × (List ((Int × Int × Int) × Int))) × Int) ⊕ (Unit × Int)) :=
  pack_packed_l1 a b (([] : List ((Int × Int × Int) × Bool)), 0)
noncomputable def varint_Bytes_b2_0 (c : Int) (b : List Int) (a : Int) : Option ((((List Int) × Int)) ⊕ (((List Int) × Int) ⊕ (List Int))) :=
  if (decide (a < 128)) then ((app b [IntKind.u8.wrap a]).bind fun d => Option.map Sum.inr (some (Sum.inl (d, ad c 1)))) else ((app b [orK .u8 (IntKind.u8.wrap a) 128]).bind fun e => (srK .u64 a 7).bind fun f => some (Sum.inl (e, f)))
noncomputable def varint_Bytes_l2 (a : Int) (s : ((List Int) × Int)) : Option (((List Int) × Int) ⊕ (List Int)) := loopO (fun s => varint_Bytes_b2_0 a s.1 s.2) s
noncomputable def varint_Bytes_b1 (d : List Int) (a : List Int) (b : Int) : Option (((List Int) × Int) ⊕ (List Int)) :=
  if (decide (b < (d.length : Int))) then ((ix d b).bind fun c => varint_Bytes_l2 b (a, c)) else (Option.map Sum.inr (some a))
noncomputable def varint_Bytes_l1 (a : List Int) (s : (List Int) × Int) : Option (List Int) := loopO (fun s => varint_Bytes_b1 a s.1 s.2) s
noncomputable def varint_Bytes (a : List Int) : Option (List Int) :=
  varint_Bytes_l1 a (([] : List Int), 0)
end Go.Proofs.Ytnmkonlfnpcoiaa
