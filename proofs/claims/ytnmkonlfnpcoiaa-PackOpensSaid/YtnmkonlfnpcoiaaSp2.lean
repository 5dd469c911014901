import Derived.Test.YtnmkonlfnpcoiaaSp1
namespace Go.Proofs.Ytnmkonlfnpcoiaa
set_option linter.unusedVariables false
noncomputable def sort_order2_func (Tx : Type) (lf : List Tx → Int → Int → Option Bool) (d : List Tx) (e : Int) (b : Int) (a : Int) : Option (Int × Int × Int × (List Tx)) :=
  (lf d b e).bind fun c => if c then (some (b, e, ad a 1, d)) else (some (e, b, a, d))
noncomputable def sort_median_func (Tx : Type) (lf : List Tx → Int → Int → Option Bool) (g : List Tx) (h : Int) (e : Int) (f : Int) (b : Int) : Option (Int × Int × (List Tx)) :=
  (sort_order2_func Tx lf g h e b).bind fun a => (sort_order2_func Tx lf a.2.2.2 a.2.1 f a.2.2.1).bind fun c => (sort_order2_func Tx lf c.2.2.2 a.1 c.1 c.2.2.1).bind fun d => some (d.2.1, d.2.2.1, d.2.2.2)
noncomputable def sort_medianAdjacent_func (Tx : Type) (lf : List Tx → Int → Int → Option Bool) (d : List Tx) (c : Int) (a : Int) : Option (Int × Int × (List Tx)) :=
  (sort_median_func Tx lf d (sb c 1) c (ad c 1) a).bind fun b => some (b.1, b.2.1, b.2.2)
noncomputable def sort_choosePivot_func_k1 (Tx : Type) (a : Int) (b : Int) (c : List Tx) : Option (Int × Int × (List Tx)) :=
  if (decide (a = 0)) then (some (b, 1, c)) else (if (decide (a = 12)) then (some (b, 2, c)) else (some (b, 0, c)))
noncomputable def sort_choosePivot_func_k2 (Tx : Type) (lf : List Tx → Int → Int → Option Bool) (a : Int) (c : Int) (d : Int) (e : Int) (f : List Tx) : Option (Int × Int × (List Tx)) :=
  (sort_median_func Tx lf f c d e a).bind fun b => sort_choosePivot_func_k1 Tx b.2.1 b.1 b.2.2
noncomputable def sort_choosePivot_func (Tx : Type) (lf : List Tx → Int → Int → Option Bool) (i : List Tx) (a : Int) (h : Int) : Option (Int × Int × (List Tx)) :=
  (quK .i64 (sb h a) 4).bind fun f => (quK .i64 (sb h a) 4).bind fun e => (quK .i64 (sb h a) 4).bind fun g => if (decide (8 ≤ (sb h a))) then (if (decide (50 ≤ (sb h a))) then ((sort_medianAdjacent_func Tx lf i (ad a (ml f 1)) 0).bind fun b => (sort_medianAdjacent_func Tx lf b.2.2 (ad a (ml e 2)) b.2.1).bind fun c => (sort_medianAdjacent_func Tx lf c.2.2 (ad a (ml g 3)) c.2.1).bind fun d => sort_choosePivot_func_k2 Tx lf d.2.1 b.1 c.1 d.1 d.2.2) else (sort_choosePivot_func_k2 Tx lf 0 (ad a (ml f 1)) (ad a (ml e 2)) (ad a (ml g 3)) i)) else (sort_choosePivot_func_k1 Tx 0 (ad a (ml e 2)) i)
noncomputable def sort_reverseRange_func_b1 (Tx : Type) (a : Int) (b : Int) (c : List Tx) : Option ((Int × Int × (List Tx)) ⊕ (List Tx)) :=
  if (decide (a < b)) then ((swO c a b).bind fun d => some (Sum.inl (ad a 1, sb b 1, d))) else (Option.map Sum.inr (some c))
noncomputable def sort_reverseRange_func_l1 (Tx : Type) (s : Int × Int × (List Tx)) : Option (List Tx) := loopO (fun s => sort_reverseRange_func_b1 Tx s.1 s.2.1 s.2.2) s
noncomputable def sort_reverseRange_func (Tx : Type) (lf : List Tx → Int → Int → Option Bool) (b : List Tx) (c : Int) (a : Int) : Option (List Tx) :=
  sort_reverseRange_func_l1 Tx (c, sb a 1, b)
noncomputable def sort_partialInsertionSort_func_k2 (Tx : Type) (b : Int) (a : Int) (c : List Tx) : Option ((Int × Int × (List Tx)) ⊕ (Bool × (List Tx))) :=
  some (Sum.inl (a, ad b 1, c))
noncomputable def sort_partialInsertionSort_func_k5 (Tx : Type) (b : Int) (a : Int) (c : List Tx) : Option ((Int × Int × (List Tx)) ⊕ (Bool × (List Tx))) :=
  sort_partialInsertionSort_func_k2 Tx b a c
noncomputable def sort_partialInsertionSort_func_b6 (Tx : Type) (lf : List Tx → Int → Int → Option Bool) (g : Int) (d : Int) (c : Int) (a : Int) (b : List Tx) : Option ((Int × (List Tx)) ⊕ ((Int × Int × (List Tx)) ⊕ (Bool × (List Tx)))) :=
  if (decide (a < g)) then ((lf b a (sb a 1)).bind fun e => if (!e) then (Option.map Sum.inr (sort_partialInsertionSort_func_k5 Tx d c b)) else ((swO b a (sb a 1)).bind fun f => some (Sum.inl (ad a 1, f)))) else (Option.map Sum.inr (sort_partialInsertionSort_func_k5 Tx d c b))
noncomputable def sort_partialInsertionSort_func_l6 (Tx : Type) (lf : List Tx → Int → Int → Option Bool) (c : Int) (b : Int) (a : Int) (s : Int × (List Tx)) : Option ((Int × Int × (List Tx)) ⊕ (Bool × (List Tx))) := loopO (fun s => sort_partialInsertionSort_func_b6 Tx lf c b a s.1 s.2) s
noncomputable def sort_partialInsertionSort_func_k4 (Tx : Type) (lf : List Tx → Int → Int → Option Bool) (d : Int) (b : Int) (a : Int) (c : List Tx) : Option ((Int × Int × (List Tx)) ⊕ (Bool × (List Tx))) :=
  if (decide (2 ≤ (sb d a))) then (sort_partialInsertionSort_func_l6 Tx lf d b a (ad a 1, c)) else (sort_partialInsertionSort_func_k2 Tx b a c)
noncomputable def sort_partialInsertionSort_func_k7 (Tx : Type) (lf : List Tx → Int → Int → Option Bool) (d : Int) (b : Int) (a : Int) (c : List Tx) : Option ((Int × Int × (List Tx)) ⊕ (Bool × (List Tx))) :=
  sort_partialInsertionSort_func_k4 Tx lf d b a c
noncomputable def sort_partialInsertionSort_func_b8 (Tx : Type) (lf : List Tx → Int → Int → Option Bool) (g : Int) (d : Int) (c : Int) (a : Int) (b : List Tx) : Option ((Int × (List Tx)) ⊕ ((Int × Int × (List Tx)) ⊕ (Bool × (List Tx)))) :=
  if (decide (1 ≤ a)) then ((lf b a (sb a 1)).bind fun e => if (!e) then (Option.map Sum.inr (sort_partialInsertionSort_func_k7 Tx lf g d c b)) else ((swO b a (sb a 1)).bind fun f => some (Sum.inl (sb a 1, f)))) else (Option.map Sum.inr (sort_partialInsertionSort_func_k7 Tx lf g d c b))
noncomputable def sort_partialInsertionSort_func_l8 (Tx : Type) (lf : List Tx → Int → Int → Option Bool) (c : Int) (b : Int) (a : Int) (s : Int × (List Tx)) : Option ((Int × Int × (List Tx)) ⊕ (Bool × (List Tx))) := loopO (fun s => sort_partialInsertionSort_func_b8 Tx lf c b a s.1 s.2) s
noncomputable def sort_partialInsertionSort_func_b3 (Tx : Type) (lf : List Tx → Int → Int → Option Bool) (g : Int) (f : Int) (c : Int) (b : List Tx) (a : Int) : Option (Int ⊕ ((Int × Int × (List Tx)) ⊕ (Bool × (List Tx)))) :=
  (gd (decide (a < f)) (lf b a (sb a 1)) false).bind fun e => if ((decide (a < f)) && (!e)) then (some (Sum.inl (ad a 1))) else (Option.map Sum.inr (if (decide (a = f)) then (Option.map Sum.inr (some (true, b))) else (if (decide ((sb f g) < 50)) then (Option.map Sum.inr (some (false, b))) else ((swO b a (sb a 1)).bind fun d => if (decide (2 ≤ (sb a g))) then (sort_partialInsertionSort_func_l8 Tx lf f c a (sb a 1, d)) else (sort_partialInsertionSort_func_k4 Tx lf f c a d)))))
noncomputable def sort_partialInsertionSort_func_l3 (Tx : Type) (lf : List Tx → Int → Int → Option Bool) (d : Int) (c : Int) (a : Int) (b : List Tx) (s : Int) : Option ((Int × Int × (List Tx)) ⊕ (Bool × (List Tx))) := loopO (fun s => sort_partialInsertionSort_func_b3 Tx lf d c a b s) s
noncomputable def sort_partialInsertionSort_func_b1 (Tx : Type) (lf : List Tx → Int → Int → Option Bool) (e : Int) (d : Int) (c : Int) (a : Int) (b : List Tx) : Option ((Int × Int × (List Tx)) ⊕ (Bool × (List Tx))) :=
  if (decide (a < 5)) then (sort_partialInsertionSort_func_l3 Tx lf e d a b c) else (Option.map Sum.inr (some (false, b)))
noncomputable def sort_partialInsertionSort_func_l1 (Tx : Type) (lf : List Tx → Int → Int → Option Bool) (b : Int) (a : Int) (s : Int × Int × (List Tx)) : Option (Bool × (List Tx)) := loopO (fun s => sort_partialInsertionSort_func_b1 Tx lf b a s.1 s.2.1 s.2.2) s
noncomputable def sort_partialInsertionSort_func (Tx : Type) (lf : List Tx → Int → Int → Option Bool) (c : List Tx) (a : Int) (b : Int) : Option (Bool × (List Tx)) :=
  sort_partialInsertionSort_func_l1 Tx lf a b (ad a 1, 0, c)
noncomputable def sort_partitionEqual_func_b3 (Tx : Type) (lf : List Tx → Int → Int → Option Bool) (f : Int) (c : List Tx) (b : Int) (a : Int) : Option (Int ⊕ ((Int × Int × (List Tx)) ⊕ (Int × (List Tx)))) :=
  (gd (decide (b ≤ a)) (lf c f a) false).bind fun d => if ((decide (b ≤ a)) && d) then (some (Sum.inl (sb a 1))) else (Option.map Sum.inr (if (decide (a < b)) then (Option.map Sum.inr (some (b, c))) else ((swO c b a).bind fun e => some (Sum.inl (ad b 1, sb a 1, e)))))
noncomputable def sort_partitionEqual_func_l3 (Tx : Type) (lf : List Tx → Int → Int → Option Bool) (c : Int) (b : List Tx) (a : Int) (s : Int) : Option ((Int × Int × (List Tx)) ⊕ (Int × (List Tx))) := loopO (fun s => sort_partitionEqual_func_b3 Tx lf c b a s) s
noncomputable def sort_partitionEqual_func_b2 (Tx : Type) (lf : List Tx → Int → Int → Option Bool) (e : Int) (b : Int) (c : List Tx) (a : Int) : Option (Int ⊕ ((Int × Int × (List Tx)) ⊕ (Int × (List Tx)))) :=
  (gd (decide (a ≤ b)) (lf c e a) false).bind fun d => if ((decide (a ≤ b)) && (!d)) then (some (Sum.inl (ad a 1))) else (Option.map Sum.inr (sort_partitionEqual_func_l3 Tx lf e c a b))
noncomputable def sort_partitionEqual_func_l2 (Tx : Type) (lf : List Tx → Int → Int → Option Bool) (c : Int) (a : Int) (b : List Tx) (s : Int) : Option ((Int × Int × (List Tx)) ⊕ (Int × (List Tx))) := loopO (fun s => sort_partitionEqual_func_b2 Tx lf c a b s) s
noncomputable def sort_partitionEqual_func_b1 (Tx : Type) (lf : List Tx → Int → Int → Option Bool) (d : Int) (a : Int) (b : Int) (c : List Tx) : Option ((Int × Int × (List Tx)) ⊕ (Int × (List Tx))) :=
  sort_partitionEqual_func_l2 Tx lf d b c a
noncomputable def sort_partitionEqual_func_l1 (Tx : Type) (lf : List Tx → Int → Int → Option Bool) (a : Int) (s : Int × Int × (List Tx)) : Option (Int × (List Tx)) := loopO (fun s => sort_partitionEqual_func_b1 Tx lf a s.1 s.2.1 s.2.2) s
noncomputable def sort_partitionEqual_func (Tx : Type) (lf : List Tx → Int → Int → Option Bool) (e : List Tx) (c : Int) (d : Int) (a : Int) : Option (Int × (List Tx)) :=
  (swO e c a).bind fun b => sort_partitionEqual_func_l1 Tx lf c (ad c 1, sb d 1, b)
noncomputable def sort_partition_func_b5 (Tx : Type) (lf : List Tx → Int → Int → Option Bool) (g : Int) (c : List Tx) (b : Int) (a : Int) : Option (Int ⊕ ((Int × Int × (List Tx)) ⊕ (Int × Bool × (List Tx)))) :=
  (gd (decide (b ≤ a)) (lf c a g) false).bind fun d => if ((decide (b ≤ a)) && (!d)) then (some (Sum.inl (sb a 1))) else (Option.map Sum.inr (if (decide (a < b)) then (Option.map Sum.inr ((swO c a g).bind fun e => some (a, false, e))) else ((swO c b a).bind fun f => some (Sum.inl (ad b 1, sb a 1, f)))))
noncomputable def sort_partition_func_l5 (Tx : Type) (lf : List Tx → Int → Int → Option Bool) (c : Int) (b : List Tx) (a : Int) (s : Int) : Option ((Int × Int × (List Tx)) ⊕ (Int × Bool × (List Tx))) := loopO (fun s => sort_partition_func_b5 Tx lf c b a s) s
noncomputable def sort_partition_func_b4 (Tx : Type) (lf : List Tx → Int → Int → Option Bool) (e : Int) (b : Int) (c : List Tx) (a : Int) : Option (Int ⊕ ((Int × Int × (List Tx)) ⊕ (Int × Bool × (List Tx)))) :=
  (gd (decide (a ≤ b)) (lf c a e) false).bind fun d => if ((decide (a ≤ b)) && d) then (some (Sum.inl (ad a 1))) else (Option.map Sum.inr (sort_partition_func_l5 Tx lf e c a b))
noncomputable def sort_partition_func_l4 (Tx : Type) (lf : List Tx → Int → Int → Option Bool) (c : Int) (a : Int) (b : List Tx) (s : Int) : Option ((Int × Int × (List Tx)) ⊕ (Int × Bool × (List Tx))) := loopO (fun s => sort_partition_func_b4 Tx lf c a b s) s
noncomputable def sort_partition_func_b3 (Tx : Type) (lf : List Tx → Int → Int → Option Bool) (d : Int) (a : Int) (b : Int) (c : List Tx) : Option ((Int × Int × (List Tx)) ⊕ (Int × Bool × (List Tx))) :=
  sort_partition_func_l4 Tx lf d b c a
noncomputable def sort_partition_func_l3 (Tx : Type) (lf : List Tx → Int → Int → Option Bool) (a : Int) (s : Int × Int × (List Tx)) : Option (Int × Bool × (List Tx)) := loopO (fun s => sort_partition_func_b3 Tx lf a s.1 s.2.1 s.2.2) s
noncomputable def sort_partition_func_b2 (Tx : Type) (lf : List Tx → Int → Int → Option Bool) (g : Int) (c : List Tx) (b : Int) (a : Int) : Option (Int ⊕ (Int × Bool × (List Tx))) :=
  (gd (decide (b ≤ a)) (lf c a g) false).bind fun d => if ((decide (b ≤ a)) && (!d)) then (some (Sum.inl (sb a 1))) else (Option.map Sum.inr (if (decide (a < b)) then ((swO c a g).bind fun e => some (a, true, e)) else ((swO c b a).bind fun f => sort_partition_func_l3 Tx lf g (ad b 1, sb a 1, f))))
noncomputable def sort_partition_func_l2 (Tx : Type) (lf : List Tx → Int → Int → Option Bool) (c : Int) (b : List Tx) (a : Int) (s : Int) : Option (Int × Bool × (List Tx)) := loopO (fun s => sort_partition_func_b2 Tx lf c b a s) s
noncomputable def sort_partition_func_b1 (Tx : Type) (lf : List Tx → Int → Int → Option Bool) (f : Int) (e : Int) (b : List Tx) (a : Int) : Option (Int ⊕ (Int × Bool × (List Tx))) :=
  (gd (decide (a ≤ (sb e 1))) (lf b a f) false).bind fun c => (some ((decide (a ≤ (sb e 1))) && c)).bind fun d => if d then (some (Sum.inl (ad a 1))) else (Option.map Sum.inr (sort_partition_func_l2 Tx lf f b a (sb e 1)))
noncomputable def sort_partition_func_l1 (Tx : Type) (lf : List Tx → Int → Int → Option Bool) (c : Int) (b : Int) (a : List Tx) (s : Int) : Option (Int × Bool × (List Tx)) := loopO (fun s => sort_partition_func_b1 Tx lf c b a s) s
noncomputable def sort_partition_func (Tx : Type) (lf : List Tx → Int → Int → Option Bool) (e : List Tx) (c : Int) (d : Int) (a : Int) : Option (Int × Bool × (List Tx)) :=
  (swO e c a).bind fun b => sort_partition_func_l1 Tx lf c d b (ad c 1)
end Go.Proofs.Ytnmkonlfnpcoiaa
