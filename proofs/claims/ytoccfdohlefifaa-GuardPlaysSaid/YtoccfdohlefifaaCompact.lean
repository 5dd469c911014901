import Derived.Test.YtoccfdohlefifaaSort
namespace Go.Proofs.Ytoccfdohlefifaa.Pl
section
variable {α : Type} [DecidableEq α]
def ddr (p : α) : List α → List α
  | [] => []
  | y :: t => if y = p then ddr p t else y :: ddr y t
def dd : List α → List α
  | [] => []
  | x :: t => x :: ddr x t
theorem ddr_append (p : α) : ∀ (l : List α) (x y : α), ddr p (l ++ [x, y]) = ddr p (l ++ [x]) ++ if y = x then [] else [y]
  | [], x, y => by
    unfold ddr
    by_cases hxp : x = p
    · subst hxp
      simp only [List.nil_append, if_true, ddr]
    · simp only [List.nil_append, hxp, if_false, ddr]
      by_cases h : y = x <;> simp [h]
  | z :: l, x, y => by
    simp only [List.cons_append, ddr]
    by_cases hz : z = p
    · rw [if_pos hz, if_pos hz, ddr_append p l x y]
    · rw [if_neg hz, if_neg hz, ddr_append z l x y]; rfl
theorem dd_snoc (l : List α) (x y : α) : dd (l ++ [x, y]) = dd (l ++ [x]) ++ if y = x then [] else [y] := by
  cases l with
  | nil =>
    simp only [List.nil_append, dd, ddr]
    by_cases h : y = x <;> simp [h]
  | cons z l => simp only [List.cons_append, dd, ddr_append]
theorem dd_take {l : List α} {n : Nat} (d : α) (h0 : 0 < n) (h : n < l.length) : dd (l.take (n + 1)) = dd (l.take n) ++ if l.getD n d = l.getD (n - 1) d then [] else [l.getD n d] := by
  obtain ⟨m, rfl⟩ : ∃ m, n = m + 1 := ⟨n - 1, by omega⟩
  rw [snoc_take d h, snoc_take d (show m < l.length by omega), List.append_assoc]
  exact dd_snoc _ _ _
theorem mem_ddr {p z : α} : ∀ {l : List α}, z ∈ ddr p l → z ∈ l
  | y :: t, h => by
    unfold ddr at h
    split at h
    · exact List.mem_cons_of_mem _ (mem_ddr h)
    · rcases List.mem_cons.1 h with rfl | h
      · simp
      · exact List.mem_cons_of_mem _ (mem_ddr h)
theorem mem_ddr' {z : α} : ∀ {l : List α} {p : α}, z ∈ l → z = p ∨ z ∈ ddr p l
  | y :: t, p, h => by
    unfold ddr
    split
    · rename_i hy
      rcases List.mem_cons.1 h with rfl | h
      · exact .inl hy
      · exact mem_ddr' h
    · rcases List.mem_cons.1 h with rfl | h
      · exact .inr (by simp)
      · rcases mem_ddr' (p := y) h with rfl | h
        · exact .inr (by simp)
        · exact .inr (List.mem_cons_of_mem _ h)
theorem mem_dd {z : α} {l : List α} : z ∈ dd l ↔ z ∈ l := by
  cases l with
  | nil => simp [dd]
  | cons x t =>
    simp only [dd, List.mem_cons]
    constructor
    · rintro (h | h)
      · exact .inl h
      · exact .inr (mem_ddr h)
    · rintro (h | h)
      · exact .inl h
      · rcases mem_ddr' (p := x) h with h | h
        · exact .inl h
        · exact .inr h
noncomputable def CompactG_k3 (k1624 : Int) (s1775 : List α) (k1777 : Int) : Option (((List α) × Int × Int) ⊕ (Int ⊕ (List α))) :=
  some (Sum.inl (s1775, k1777, ad k1624 1))
noncomputable def CompactG_b2 (d : α) (k1219 : Int) (n1530 : Int) (s1621 : List α) (k1623 : Int) (k1624 : Int) : Option (((List α) × Int × Int) ⊕ (Int ⊕ (List α))) :=
  if (decide (k1624 < (n1530 - k1219))) then ((wn k1219 n1530 k1624).bind fun q1781 => (ix s1621 q1781).bind fun x1782 => (wn k1219 n1530 (sb k1624 1)).bind fun q1783 => (ix s1621 q1783).bind fun x1784 => if (!decide (x1782 = x1784)) then ((wn k1219 n1530 k1624).bind fun q1790 => (ix s1621 q1790).bind fun x1791 => (ix s1621 k1623).bind fun x1792 => (put s1621 k1623 x1791).bind fun l1793 => CompactG_k3 k1624 l1793 (ad k1623 1)) else (CompactG_k3 k1624 s1621 k1623)) else (Option.map Sum.inr ((cut s1621 k1623 (s1621.length : Int)).bind fun x1801 => (some (s1621.length : Int)).bind fun n1803 => (clr s1621 k1623 n1803 d).bind fun l1804 => (cut l1804 0 k1623).bind fun x1810 => Option.map Sum.inr (some x1810)))
noncomputable def CompactG_l2 (d : α) (k1219 : Int) (n1530 : Int) (s : (List α) × Int × Int) : Option (Int ⊕ (List α)) := loopO (fun s => CompactG_b2 d k1219 n1530 s.1 s.2.1 s.2.2) s
noncomputable def CompactG_b1 (d : α) (s1 : List α) (k1219 : Int) : Option (Int ⊕ (List α)) :=
  if (decide (k1219 < (s1.length : Int))) then ((ix s1 k1219).bind fun x1524 => (ix s1 (sb k1219 1)).bind fun x1525 => if (decide (x1524 = x1525)) then ((cut s1 k1219 (s1.length : Int)).bind fun x1528 => (some (s1.length : Int)).bind fun n1530 => CompactG_l2 d k1219 n1530 (s1, k1219, 1)) else (some (Sum.inl (ad k1219 1)))) else (Option.map Sum.inr (some s1))
noncomputable def CompactG_l1 (d : α) (s1 : List α) (s : Int) : Option (List α) := loopO (fun s => CompactG_b1 d s1 s) s
noncomputable def CompactG (d : α) (s1 : List α) : Option (List α) :=
  if (decide ((s1.length : Int) < 2)) then (some s1) else (CompactG_l1 d s1 1)
structure CSt (l : List α) (n : Nat) (s : List α) (k : Nat) : Prop where
  len : s.length = l.length
  done : s.take k = dd (l.take n)
  kn : k + 1 ≤ n
  rest : ∀ j, n ≤ j + 1 → ∀ d, s.getD j d = l.getD j d
theorem compact2 (d : α) (l : List α) (hl : l.length ≤ 1000000) (k0 : Nat) (h0 : 0 < k0) (hk0 : k0 < l.length) (hs : CSt l (k0 + 1) l k0) : CompactG_l2 d (k0 : Int) (l.length : Int) (l, (k0 : Int), 1) = some (.inr (dd l)) := by
  obtain ⟨r, hr, hR⟩ := loopO_rule (body := fun s => CompactG_b2 d (k0 : Int) (l.length : Int) s.1 s.2.1 s.2.2) (fun s => ∃ k i : Nat, 1 ≤ i ∧ k0 + i ≤ l.length ∧ s.2.1 = (k : Int) ∧ s.2.2 = (i : Int) ∧ CSt l (k0 + i) s.1 k) (fun s => l.length - s.2.2.toNat) (fun r => r = .inr (dd l)) (fun st hst => by
    obtain ⟨s, kk, ii⟩ := st
    obtain ⟨k, i, hi1, hil, rfl, rfl, hc⟩ := hst
    simp only at hc
    have hlen := hc.len
    have hkn := hc.kn
    unfold CompactG_b2
    by_cases hlt : k0 + i < l.length
    · left
      have hd : decide ((i : Int) < (l.length : Int) - (k0 : Int)) = true := by simp only [decide_eq_true_eq]; omega
      have hw1 : wn (k0 : Int) (l.length : Int) (i : Int) = some ((k0 + i : Nat) : Int) := by rw [wn_at ⟨by omega, by omega⟩]; congr 1
      have hw2 : wn (k0 : Int) (l.length : Int) ((i - 1 : Nat) : Int) = some ((k0 + i - 1 : Nat) : Int) := by rw [wn_at ⟨by omega, by omega⟩]; congr 1; omega
      have hx1 : ix s ((k0 + i : Nat) : Int) = some (l.getD (k0 + i) d) := by rw [ix_getD d (by omega), hc.rest _ (by omega)]
      have hx2 : ix s ((k0 + i - 1 : Nat) : Int) = some (l.getD (k0 + i - 1) d) := by rw [ix_getD d (by omega), hc.rest _ (by omega)]
      have hstep := dd_take (l := l) (n := k0 + i) d (by omega) hlt
      simp only [hd, if_true, sb_one (show i < 1000000000 by omega) (by omega), hw1, hw2, bind_some', hx1, hx2]
      by_cases he : l.getD (k0 + i) d = l.getD (k0 + i - 1) d
      · rw [if_pos he, List.append_nil] at hstep
        simp only [he, decide_true, Bool.not_true, Bool.false_eq_true, if_false]
        refine ⟨_, rfl, ⟨k, i + 1, by omega, by omega, rfl, by rw [ad_one (by omega)], hlen, ?_, by omega, fun j hj d' => hc.rest j (by omega) d'⟩, ?_⟩
        · rw [hc.done, ← Nat.add_assoc, hstep]
        · simp only [ad_one (show i < 1000000000 by omega), Int.toNat_natCast]; omega
      · rw [if_neg he] at hstep
        simp only [decide_eq_false he, Bool.not_false, if_true, ix_getD d (show k < s.length by omega), bind_some', put_nat (show k < s.length by omega)]
        refine ⟨_, rfl, ⟨k + 1, i + 1, by omega, by omega, (show ad (k : Int) 1 = _ from ad_one (by omega)), (show ad (i : Int) 1 = _ from ad_one (by omega)), by simpa using hlen, ?_, by omega, fun j hj d' => ?_⟩, ?_⟩
        · have hk : k < (s.set k (l.getD (k0 + i) d)).length := by simp; omega
          rw [snoc_take d hk, List.take_set_of_le (Nat.le_refl _), hc.done, getD_set (by omega), if_pos rfl, ← Nat.add_assoc, hstep]
        · rw [getD_set (by omega), if_neg (by omega)]
          exact hc.rest j (by omega) d'
        · simp only [ad_one (show i < 1000000000 by omega), Int.toNat_natCast]; omega
    · right
      have hd : decide ((i : Int) < (l.length : Int) - (k0 : Int)) = false := by simp only [decide_eq_false_iff_not]; omega
      refine ⟨.inr (dd l), ?_, rfl⟩
      simp only [hd, Bool.false_eq_true, if_false, cut_from (show k ≤ s.length by omega), bind_some']
      rw [show clr s (k : Int) (s.length : Int) d = some (s.take k ++ List.replicate (s.length - k) d ++ s.drop s.length) from by
        unfold clr
        rw [if_pos ⟨by omega, by omega, by omega⟩]; simp, bind_some', cut_to (by simp; omega), bind_some']
      have : (s.take k ++ List.replicate (s.length - k) d ++ s.drop s.length).take k = dd l := by
        have hk : (s.take k).length = k := by rw [List.length_take]; omega
        rw [List.append_assoc, List.take_append_of_le_length (by omega), List.take_of_length_le (by omega), hc.done, List.take_of_length_le (by omega)]
      rw [this]; rfl) (s := (l, (k0 : Int), 1)) ⟨k0, 1, by omega, by omega, rfl, rfl, hs⟩
  unfold CompactG_l2
  rw [hr, hR]
theorem Compact_eq (d : α) (l : List α) (hl : l.length ≤ 1000000) : CompactG d l = some (dd l) := by
  unfold CompactG CompactG_l1
  by_cases h2 : l.length < 2
  · have hd : decide ((l.length : Int) < 2) = true := by simp only [decide_eq_true_eq]; omega
    rw [hd, if_pos rfl]
    cases l with
    | nil => rfl
    | cons x t =>
      cases t with
      | nil => rfl
      | cons y t => simp at h2; omega
  · have hd : decide ((l.length : Int) < 2) = false := by simp only [decide_eq_false_iff_not]; omega
    rw [hd, if_neg (by decide)]
    obtain ⟨r, hr, hR⟩ := loopO_rule (body := fun s => CompactG_b1 d l s) (fun s => ∃ k : Nat, s = (k : Int) ∧ 1 ≤ k ∧ k ≤ l.length ∧ dd (l.take k) = l.take k) (fun s => l.length - s.toNat) (fun r => r = dd l) (fun st hst => by
      obtain ⟨k, rfl, h1, hk, hdd⟩ := hst
      unfold CompactG_b1
      by_cases hlt : k < l.length
      · have hstep := dd_take (l := l) (n := k) d (by omega) hlt
        simp only [dlt hlt, if_true, sb_one (show k < 1000000000 by omega) (by omega), ix_getD d hlt, ix_getD d (show k - 1 < l.length by omega), bind_some']
        by_cases he : l.getD k d = l.getD (k - 1) d
        · right
          rw [if_pos he, List.append_nil] at hstep
          simp only [he, decide_true, if_true, cut_from (show k ≤ l.length by omega), bind_some']
          exact ⟨dd l, compact2 d l hl k (by omega) hlt ⟨rfl, by rw [hstep, hdd], by omega, fun _ _ _ => rfl⟩, rfl⟩
        · left
          rw [if_neg he] at hstep
          simp only [decide_eq_false he, Bool.false_eq_true, if_false, ad_one (show k < 1000000000 by omega)]
          exact ⟨_, rfl, ⟨k + 1, rfl, by omega, by omega, by rw [hstep, hdd, snoc_take d hlt]⟩, by simp only [Int.toNat_natCast]; omega⟩
      · right
        simp only [dnlt hlt, Bool.false_eq_true, if_false]
        refine ⟨l, rfl, ?_⟩
        rw [List.take_of_length_le (by omega)] at hdd
        exact hdd.symm) (s := 1) ⟨1, rfl, by omega, by omega, by
          cases l with
          | nil => simp at h2
          | cons x t => rfl⟩
    rw [hr, hR]
end
end Go.Proofs.Ytoccfdohlefifaa.Pl
