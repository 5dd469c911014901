/-
  Chapter 04, plainly: the laws. No program in sight.
-/
import Derived.Test.YthbjlgklmamhjaaP04b
namespace Go.Proofs.Ythbjlgklmamhjaa.Pl

theorem isort_ris (l : List Int) : Ris (isort ltI l) := inc_ris.1 (isort_inc wkI l)
theorem take60 {α : Type} (l : List α) : l.take 60 = l.take (min l.length 60) := by
  by_cases h : l.length ≤ 60
  · rw [Nat.min_eq_left h, List.take_length, List.take_of_length_le h]
  · rw [Nat.min_eq_right (by omega)]
/-- Numbers put in, one by one, at most sixty. -/
theorem put60 {R : Type} (l : List Int) (body : List Int × Int → Option ((List Int × Int) ⊕ R)) (out : List Int → Option R)
    (h1 : ∀ (x : List Int) (k : Nat), x.length ≤ 1000 → Inc ltI x → k < l.length → k < 60 → body (x, (k : Int)) = (ref04_Put x (l.getD k 0)).bind fun r => some (.inl (r, ((k + 1 : Nat) : Int))))
    (h2 : ∀ (x : List Int) (k : Nat), ¬ (k < l.length ∧ k < 60) → body (x, (k : Int)) = Option.map Sum.inr (out x)) {r : R} (hr : out (isort ltI (l.take 60)) = some r) : loopO body ([], 0) = some r := by
  have := loopO_nat (body := body) (fun k => (isort ltI (l.take k), (k : Int))) (min l.length 60) r (fun k hk => by
    have hlen : (isort ltI (l.take k)).length = k := by rw [isort_len, List.length_take]; omega
    rw [h1 _ k (by omega) (isort_inc wkI _) (by omega) (by omega), Put_eq _ _ (by omega) (isort_inc wkI _), bind_some', snoc_take 0 (by omega), isort_snoc]) (by
    rw [h2 _ _ (by omega), ← take60, hr]; rfl)
  exact this
theorem law04_OrderStrips_true (x0 : List Int) (x1 : Int) (x2 : Int) (x3 : Int) (k0 : ∀ y2 ∈ x0, I64 y2) (k1 : I64 x1) (k2 : I64 x2) (k3 : I64 x3) : law04_OrderStrips x0 x1 x2 x3 = some true := by
  unfold law04_OrderStrips law04_OrderStrips_l1
  refine put60 x0 (fun s => law04_OrderStrips_b1 x0 x1 x2 x3 s.1 s.2) (fun x => (order_Strips x x1).bind fun r177 => (order_Find x x1).bind fun r179 => (some ((decide (r177.1 < 0)) || (decide ((x.length : Int) < r177.2)))).bind fun x182 => (some (x182 || (!((decide (r177.1 < r177.2)) == r179.2)))).bind fun x183 => if (x183 || (decide (r177.2 < r177.1))) then (some false) else (law04_OrderStrips_l2 x1 x2 x3 x r177 0)) (fun x k hx hi hk h60 => by
    unfold law04_OrderStrips_b1
    have hd : decide ((k : Int) < 60) = true := by simp only [decide_eq_true_eq]; omega
    simp only [dlt hk, hd, Bool.and_self, bind_some', if_true, ix_getD 0 hk, ad_one (show k < 1000000000 by omega)]) (fun x k hn => by
    unfold law04_OrderStrips_b1
    have hd : (decide ((k : Int) < (x0.length : Int)) && decide ((k : Int) < 60)) = false := by
      rw [Bool.and_eq_false_iff, decide_eq_false_iff_not, decide_eq_false_iff_not]; omega
    simp only [hd, bind_some', Bool.false_eq_true, if_false]) ?_
  have hl : (isort ltI (x0.take 60)).length ≤ 60 := by rw [isort_len, List.length_take]; omega
  have h := isort_ris (x0.take 60)
  generalize isort ltI (x0.take 60) = x at *
  rw [Strips_eq x x1 (by omega) h, bind_some', Find_eq x x1 (by omega) h, bind_some', bind_some', bind_some']
  have hlu := lb_ub x x1
  have hul := ub_le x x1
  have c1 : ((((decide ((lb x x1 : Int) < 0)) || (decide ((x.length : Int) < (ub x x1 : Int)))) || (!((decide ((lb x x1 : Int) < (ub x x1 : Int))) == has x x1))) || (decide ((ub x x1 : Int) < (lb x x1 : Int)))) = false := by
    have e1 : decide ((lb x x1 : Int) < (ub x x1 : Int)) = has x x1 := by unfold has; rw [Bool.eq_iff_iff, decide_eq_true_iff, decide_eq_true_iff]; omega
    rw [e1, decide_eq_false (by omega), decide_eq_false (by omega), decide_eq_false (by omega)]
    simp
  simp only [c1, Bool.false_eq_true, if_false]
  unfold law04_OrderStrips_l2
  have := loopO_nat (body := fun s => law04_OrderStrips_b2 x1 x2 x3 x ((lb x x1 : Int), (ub x x1 : Int)) s) (fun k => (k : Int)) x.length true (fun k hk => by
    unfold law04_OrderStrips_b2
    have s1 := lb_spec x1 h k hk
    have s2 := ub_spec x1 h k hk
    have d1 : (decide (x.getD k 0 < x1) && decide ((lb x x1 : Int) ≤ (k : Int))) = false := by rw [Bool.and_eq_false_iff, decide_eq_false_iff_not, decide_eq_false_iff_not]; omega
    have d2 : (decide (x1 < x.getD k 0) && decide ((k : Int) < (ub x x1 : Int))) = false := by rw [Bool.and_eq_false_iff, decide_eq_false_iff_not, decide_eq_false_iff_not]; omega
    simp only [dlt hk, if_true, ix_getD 0 hk, bind_some', d1, Bool.not_false, gd_true, d2, Bool.or_self, Bool.false_eq_true, if_false, ad_one (show k < 1000000000 by omega)]) (by
    unfold law04_OrderStrips_b2
    simp only [dnlt (Nat.lt_irrefl _), Bool.false_eq_true, if_false, known04, bind_some', gd_true, Common_eq x _ _ (by omega) h]
    have e1 : decide (Cm x x1 x2) = decide (Cm x x2 x1) := by
      rw [Bool.eq_iff_iff, decide_eq_true_iff, decide_eq_true_iff]
      unfold Cm
      exact ⟨fun g y hy => ⟨(g y hy).2, (g y hy).1⟩, fun g y hy => ⟨(g y hy).2, (g y hy).1⟩⟩
    have e2 : decide (Cm x x1 x1) = true := decide_eq_true fun y _ => by omega
    rw [e1, e2]
    simp only [beq_self_eq_true, Bool.and_self, gd_true, Bool.true_and, Bool.not_not, bind_some', Common_eq x _ _ (show x.length ≤ 1000000 by omega) h]
    by_cases hc : Cm x x2 x1
    · have e3 : decide (Cm x x1 (mn (mx x3 (mn x1 x2)) (mx x1 x2))) = true := by
        refine decide_eq_true fun y hy => ?_
        have := hc y hy
        rw [mn_eq, mn_eq, mx_eq, mx_eq]
        omega
      rw [decide_eq_true hc, gd_true, e3]; rfl
    · rw [decide_eq_false hc]; rfl)
  exact this
theorem all_eq (x : List Int) : ∀ (y : List Int) (k : Nat), k ≤ y.length → (x.length + y.length ≤ 1000000) → Inc ltI x → Inc ltI ((y.take k).foldl (fun out z => insF ltI z out) x) := fun y k _ _ hx => foldl_inc wkI _ _ hx
theorem foldl_len {α : Type} {lt : α → α → Bool} (l B : List α) : (l.foldl (fun out x => insF lt x out) B).length = l.length + B.length := by
  rw [(foldl_perm (lt := lt) l B).length_eq, List.length_append]
theorem Merge_eq (x y : List Int) (h : x.length + y.length ≤ 1000000) : order_Merge x y = some (mrg ltI x y) := by
  unfold order_Merge
  rw [show order_merged_int_Merge_1 x y = some (mrg ltI x y) from merged_eq (ahead := order_Merge_1) x y h fun _ _ _ _ => rfl]; rfl
theorem cnt_eq (l : List Int) (n : Int) : lb l n + l.countP (fun x => decide (x = n)) = ub l n := by
  unfold lb ub
  induction l with
  | nil => rfl
  | cons y t ih =>
    rw [List.countP_cons, List.countP_cons, List.countP_cons]
    by_cases h1 : y < n
    · simp only [h1, decide_true, if_true, show ¬ y = n by omega, decide_false, Bool.false_eq_true, if_false, show y ≤ n by omega]; omega
    · by_cases h2 : y = n
      · simp only [h1, h2, decide_true, if_true, Int.lt_irrefl, decide_false, Bool.false_eq_true, if_false, Int.le_refl]; omega
      · simp only [h1, h2, decide_false, Bool.false_eq_true, if_false, show ¬ y ≤ n by omega]; omega
theorem Apart_eq (l : List Int) (a b : Int) (hl : l.length ≤ 1000000) : ref04_Apart l a b = some (!decide (Cm l a b)) := by
  unfold ref04_Apart ref04_Apart_l1
  have hb : ∀ k, k < l.length → ref04_Apart_b1 l a b (k : Int) = some (if ¬ (a < l.getD k 0 ∧ l.getD k 0 < b) ∧ ¬ (b < l.getD k 0 ∧ l.getD k 0 < a) then .inl ((k + 1 : Nat) : Int) else .inr true) := fun k hk => by
    unfold ref04_Apart_b1
    simp only [dlt hk, if_true, ix_getD 0 hk, bind_some', ad_one (show k < 1000000000 by omega)]
    generalize l.getD k 0 = v
    by_cases h1 : a < v <;> by_cases h2 : v < b <;> by_cases h3 : b < v <;> by_cases h4 : v < a <;> simp [h1, h2, h3, h4] <;> omega
  have := loopO_all (body := fun s => ref04_Apart_b1 l a b s) (fun k => (k : Int)) l.length (fun k => ¬ (a < l.getD k 0 ∧ l.getD k 0 < b) ∧ ¬ (b < l.getD k 0 ∧ l.getD k 0 < a)) false true (fun k hk hok => by
    simp only [hb k hk]; rw [if_pos hok]) (fun k hk hok => by
    simp only [hb k hk]; rw [if_neg hok]) (by
    unfold ref04_Apart_b1
    simp only [dnlt (Nat.lt_irrefl _)]; rfl)
  refine (show loopO _ _ = _ from this).trans ?_
  congr 1
  by_cases h : Cm l a b
  · rw [if_pos (fun k hk => h _ (getD_mem hk)), decide_eq_true h]; rfl
  · rw [if_neg (fun hh => h fun x hx => ?_), decide_eq_false h]; · rfl
    obtain ⟨i, hi, rfl⟩ := mem_getD (d := (0 : Int)) hx
    exact hh i hi
theorem law04_OrderFinds_true (x0 : List Int) (x1 : List Int) (x2 : Int) (x3 : Int) (k0 : ∀ y2 ∈ x0, I64 y2) (k1 : ∀ y2 ∈ x1, I64 y2) (k2 : I64 x2) (k3 : I64 x3) : law04_OrderFinds x0 x1 x2 x3 = some true := by
  unfold law04_OrderFinds law04_OrderFinds_l1
  refine put60 x0 (fun s => law04_OrderFinds_b1 x0 x1 x2 x3 s.1 s.2) (fun x => law04_OrderFinds_l2 x1 x2 x3 x (([] : List Int), 0)) (fun x k hx hi hk h60 => by
    unfold law04_OrderFinds_b1
    have hd : decide ((k : Int) < 60) = true := by simp only [decide_eq_true_eq]; omega
    simp only [dlt hk, hd, Bool.and_self, bind_some', if_true, ix_getD 0 hk, ad_one (show k < 1000000000 by omega)]) (fun x k hn => by
    unfold law04_OrderFinds_b1
    have hd : (decide ((k : Int) < (x0.length : Int)) && decide ((k : Int) < 60)) = false := by
      rw [Bool.and_eq_false_iff, decide_eq_false_iff_not, decide_eq_false_iff_not]; omega
    simp only [hd, bind_some', Bool.false_eq_true, if_false]) ?_
  have hl : (isort ltI (x0.take 60)).length ≤ 60 := by rw [isort_len, List.length_take]; omega
  have hi := isort_inc wkI (x0.take 60)
  generalize isort ltI (x0.take 60) = x at *
  unfold law04_OrderFinds_l2
  refine put60 x1 (fun s => law04_OrderFinds_b2 x1 x2 x3 x s.1 s.2) (fun y => (app ([] : List Int) x).bind fun x374 => law04_OrderFinds_l3 x2 x3 x y (x374, 0)) (fun y k hx hi hk h60 => by
    unfold law04_OrderFinds_b2
    have hd : decide ((k : Int) < 60) = true := by simp only [decide_eq_true_eq]; omega
    simp only [dlt hk, hd, Bool.and_self, bind_some', if_true, ix_getD 0 hk, ad_one (show k < 1000000000 by omega)]) (fun y k hn => by
    unfold law04_OrderFinds_b2
    have hd : (decide ((k : Int) < (x1.length : Int)) && decide ((k : Int) < 60)) = false := by
      rw [Bool.and_eq_false_iff, decide_eq_false_iff_not, decide_eq_false_iff_not]; omega
    simp only [hd, bind_some', Bool.false_eq_true, if_false]) ?_
  have hly : (isort ltI (x1.take 60)).length ≤ 60 := by rw [isort_len, List.length_take]; omega
  have hiy := isort_inc wkI (x1.take 60)
  generalize isort ltI (x1.take 60) = y at *
  have h := inc_ris.1 hi
  rw [app_le (by simp; omega), bind_some', List.nil_append]
  unfold law04_OrderFinds_l3
  have hall : ∀ k, k ≤ y.length → ((y.take k).foldl (fun out z => insF ltI z out) x).length ≤ 120 := fun k hk => by rw [foldl_len, List.length_take]; omega
  have := loopO_nat (body := fun s => law04_OrderFinds_b3 x2 x3 x y s.1 s.2) (fun k => ((y.take k).foldl (fun out z => insF ltI z out) x, (k : Int))) y.length true (fun k hk => by
    unfold law04_OrderFinds_b3
    have hk' := hall k (by omega)
    simp only [dlt hk, if_true, ix_getD 0 hk, bind_some', Put_eq _ _ (show ((y.take k).foldl (fun out z => insF ltI z out) x).length ≤ 1000000 by omega) (foldl_inc wkI _ _ hi), ad_one (show k < 1000000000 by omega)]
    rw [snoc_take 0 hk, List.foldl_append]; rfl) (by
    unfold law04_OrderFinds_b3
    simp only [dnlt (Nat.lt_irrefl _), Bool.false_eq_true, if_false, List.take_length, Find_eq x x2 (by omega) h, bind_some', refFind_eq x x2 (by omega) h, Strips_eq x x2 (by omega) h]
    unfold law04_OrderFinds_l4
    have hall := hall y.length (Nat.le_refl _)
    rw [List.take_length] at hall
    have hm : mrg ltI x y = y.foldl (fun out z => insF ltI z out) x := by
      rw [← mrg_isort wkI, isort_of_inc wkI y hiy]
    have := loopO_nat (body := fun s => law04_OrderFinds_b4 x2 x3 x y (y.foldl (fun out z => insF ltI z out) x) ((lb x x2 : Int), has x x2) ((lb x x2 : Int), has x x2) ((lb x x2 : Int), (ub x x2 : Int)) s.1 s.2) (fun k => ((((x.take k).countP fun z => decide (z = x2) : Nat) : Int), (k : Int))) x.length true (fun k hk => by
      unfold law04_OrderFinds_b4 law04_OrderFinds_k5
      have hc : (x.take k).countP (fun z => decide (z = x2)) ≤ k := Nat.le_trans List.countP_le_length (by rw [List.length_take]; omega)
      simp only [dlt hk, if_true, ix_getD 0 hk, bind_some', ad_one (show k < 1000000000 by omega), ad_one (show (x.take k).countP (fun z => decide (z = x2)) < 1000000000 by omega)]
      rw [snoc_take 0 hk, List.countP_append]
      generalize x.getD k 0 = v
      by_cases he : v = x2
      · subst he; simp
      · simp [he]) (by
      unfold law04_OrderFinds_b4
      have hce := cnt_eq x x2
      have hlu := lb_ub x x2
      have hul := ub_le x x2
      simp only [dnlt (Nat.lt_irrefl _), Bool.false_eq_true, if_false, List.take_length, known04, bind_some', gd_true, Merge_eq x y (by omega), hm, Ints_eq _ _ (show (y.foldl (fun out z => insF ltI z out) x).length ≤ 1000000 by omega) (show (y.foldl (fun out z => insF ltI z out) x).length ≤ 1000000 by omega), decide_true, Bool.and_self, beq_self_eq_true]
      rw [ad_in (by omega), decide_eq_true (by omega)]
      simp only [gd_true, Common_eq x _ _ (show x.length ≤ 1000000 by omega) h, Apart_eq x _ _ (show x.length ≤ 1000000 by omega), bind_some', Bool.not_not, beq_self_eq_true, Bool.and_self, Option.map_some])
    refine congrArg (Option.map Sum.inr) (?_ : _ = some true)
    exact this)
  exact this
/-! ### sorting -/
theorem cut60 {α : Type} (l : List α) : cut l 0 (mn (l.length : Int) 60) = some (l.take 60) := by
  have e : mn (l.length : Int) 60 = ((min l.length 60 : Nat) : Int) := by rw [mn_eq]; omega
  rw [e, cut_to (by omega), ← take60]
theorem refUniq_eq (l : List Int) (hl : l.length ≤ 1000000) : ref04_Uniq l = some (uq l) := by
  unfold ref04_Uniq ref04_Uniq_l1
  obtain ⟨r, hr, hR⟩ := loopO_rule (body := fun s => ref04_Uniq_b1 l s.1 s.2) (fun s => ∃ k : Nat, s.2 = (k : Int) ∧ k ≤ l.length ∧ s.1.length ≤ k ∧ Up s.1 ∧ ∀ x, x ∈ s.1 ↔ x ∈ l.take k) (fun s => l.length - s.2.toNat) (fun r => r = uq l) (fun st hst => by
    obtain ⟨o, kk⟩ := st
    obtain ⟨k, rfl, hk, hlen, hup, hmem⟩ := hst
    simp only at hlen hup hmem
    have hris : Ris o := hup.imp fun {a b} h => by omega
    unfold ref04_Uniq_b1 ref04_Uniq_k2
    by_cases hlt : k < l.length
    · left
      simp only [dlt hlt, if_true, ix_getD 0 hlt, bind_some', refFind_eq o _ (show o.length ≤ 1000000 by omega) hris, ad_one (show k < 1000000000 by omega)]
      have hhas : has o (l.getD k 0) = true ↔ l.getD k 0 ∈ o := by
        unfold has
        rw [decide_eq_true_iff, ← has_iff hris]
        constructor
        · rintro ⟨h1, h2⟩
          rw [← h2]; exact getD_mem h1
        · intro hm
          obtain ⟨j, hj, ej⟩ := mem_getD (d := (0 : Int)) hm
          have h1 := lb_spec (l.getD k 0) hris j hj
          have h2 := ub_spec (l.getD k 0) hris j hj
          rw [ej] at h1 h2
          refine (has_iff hris).2 ?_
          omega
      cases hh : has o (l.getD k 0) with
      | true =>
        have hm := hhas.1 hh
        simp only [Bool.not_true, Bool.false_eq_true, if_false]
        refine ⟨_, rfl, ⟨k + 1, rfl, by omega, (show o.length ≤ k + 1 by omega), hup, fun x => ?_⟩, by simp only [Int.toNat_natCast]; omega⟩
        rw [snoc_take 0 hlt, List.mem_append, List.mem_singleton, ← hmem]
        constructor
        · exact .inl
        · rintro (h | rfl)
          · exact h
          · exact hm
      | false =>
        have hm : ¬ l.getD k 0 ∈ o := fun h => by rw [hhas.2 h] at hh; cases hh
        simp only [Bool.not_false, if_true, Put_eq o _ (show o.length ≤ 1000000 by omega) (inc_ris.2 hris), bind_some']
        have hinc := inc_ris.1 (insF_inc wkI (l.getD k 0) o (inc_ris.2 hris))
        have hp := insF_perm (lt := ltI) (l.getD k 0) o
        refine ⟨_, rfl, ⟨k + 1, rfl, by omega, by rw [insF_len]; omega, ?_, fun x => ?_⟩, by simp only [Int.toNat_natCast]; omega⟩
        · have hnd : (insF ltI (l.getD k 0) o).Nodup := hp.nodup_iff.2 (List.nodup_cons.2 ⟨hm, hup.imp fun {a b} h => by omega⟩)
          exact (hinc.and hnd).imp fun {a b} h => by have := h.1; have := h.2; omega
        · rw [hp.mem_iff, snoc_take 0 hlt, List.mem_append, List.mem_singleton, List.mem_cons, ← hmem]
          exact or_comm
    · right
      simp only [dnlt hlt, Bool.false_eq_true, if_false]
      refine ⟨o, rfl, up_eq hup (uq_up l) fun x => ?_⟩
      rw [hmem, mem_uq, List.take_of_length_le (by omega)]) (s := (([] : List Int), 0)) ⟨0, rfl, by omega, by simp, List.Pairwise.nil, fun x => by simp⟩
  rw [hr, hR]
theorem law04_OrderSorts_true (x0 : List Pt) (x1 : List (List Int)) (x2 : List Int) (k0 : ∀ y2 ∈ x0, I64 y2.1 ∧ I64 y2.2) (k1 : ∀ y2 ∈ x1, ∀ y2' ∈ y2, I64 y2') (k2 : ∀ y2 ∈ x2, I64 y2) : law04_OrderSorts x0 x1 x2 = some true := by
  unfold law04_OrderSorts law04_OrderSorts_l1
  rw [cut60, bind_some', cut60, bind_some', cut60, bind_some']
  have hl0 : (x0.take 60).length ≤ 60 := by rw [List.length_take]; omega
  have hl1 : (x1.take 60).length ≤ 60 := by rw [List.length_take]; omega
  have hl2 : (x2.take 60).length ≤ 60 := by rw [List.length_take]; omega
  generalize x0.take 60 = l at *
  generalize x1.take 60 = rw_ at *
  generalize x2.take 60 = n at *
  clear k0 k1 k2
  have := loopO_nat (body := fun s => law04_OrderSorts_b1 l rw_ n s.1 s.2) (fun k => ((rw_.take k).map (List.take 20), (k : Int))) rw_.length true (fun k hk => by
    unfold law04_OrderSorts_b1
    have e : mn ((rw_.getD k []).length : Int) 20 = ((min (rw_.getD k []).length 20 : Nat) : Int) := by rw [mn_eq]; omega
    simp only [dlt hk, if_true, ix_getD [] hk, bind_some', e, cut_to (show min (rw_.getD k []).length 20 ≤ (rw_.getD k []).length by omega)]
    rw [app_le (by simp; omega), bind_some', ad_one (by omega), snoc_take [] hk, List.map_append]
    congr 4
    by_cases h20 : (rw_.getD k []).length ≤ 20
    · rw [Nat.min_eq_left h20, List.take_length]
      simp only [List.map_cons, List.map_nil]
      rw [List.take_of_length_le h20]
    · rw [Nat.min_eq_right (by omega)]; rfl) (by
    unfold law04_OrderSorts_b1
    simp only [dnlt (Nat.lt_irrefl _), Bool.false_eq_true, if_false, List.take_length]
    have hc : (rw_.map (List.take 20)).length ≤ 60 := by simp; omega
    have hc2 : ∀ r ∈ rw_.map (List.take 20), r.length ≤ 1000000 := fun r hr => by
      obtain ⟨r', _, rfl⟩ := List.mem_map.1 hr
      rw [List.length_take]; omega
    generalize rw_.map (List.take 20) = c at *
    refine congrArg (Option.map Sum.inr) (?_ : _ = some true)
    unfold law04_OrderSorts_l2
    have hfin : ∀ i : Int, ¬ i < c.length → law04_OrderSorts_b2 l n c i = some (.inr true) := fun i hi => by
      unfold law04_OrderSorts_b2
      have s1 : law03_Same (isort ltP l) (isort ltP l) = some true := by rw [law03_Same_eq _ _ (by rw [isort_len]; omega), decide_eq_true rfl]
      have s2 : law04_Ints (isort (ltR c) (nums c.length)) (isort (ltR c) (nums c.length)) = some true := by rw [Ints_eq _ _ (by rw [isort_len, nums_len]; omega) (by rw [isort_len, nums_len]; omega), decide_eq_true rfl]
      have s3 : law04_Ints (uq n) (uq n) = some true := by have := uq_len n; rw [Ints_eq _ _ (by omega) (by omega), decide_eq_true rfl]
      simp only [decide_eq_false hi, Bool.false_eq_true, if_false, known04, bind_some', gd_true, Points_eq l (by omega), Ofs_eq l (by omega), refPoints_eq l (by omega), s1, Bool.and_self, Rows_eq c (by omega) hc2, refRows_eq c (by omega) hc2, s2, Uniq_eq n (by omega), refUniq_eq n (by omega), s3, Option.map_some]
    by_cases h0 : c.length = 0
    · exact loopO_inr (hfin 1 (by omega))
    · have := loopO_nat (body := fun s => law04_OrderSorts_b2 l n c s) (fun k => ((k + 1 : Nat) : Int)) (c.length - 1) true (fun k hk => by
        unfold law04_OrderSorts_b2
        have hs : sb ((k + 1 : Nat) : Int) 1 = (k : Int) := by rw [sb_one (by omega) (by omega)]; rfl
        simp only [dlt (show k + 1 < c.length by omega), if_true, hs, ix_getD [] (show k < c.length by omega), ix_getD [] (show k + 1 < c.length by omega), bind_some', Compare_eq _ _ (hc2 _ (getD_mem (d := []) (show k < c.length by omega))) (hc2 _ (getD_mem (d := []) (show k + 1 < c.length by omega))), refCompare_eq _ _ (hc2 _ (getD_mem (d := []) (show k < c.length by omega))) (hc2 _ (getD_mem (d := []) (show k + 1 < c.length by omega))), decide_true, Bool.not_true, Bool.false_eq_true, if_false, ad_one (show k + 1 < 1000000000 by omega)]) (hfin _ (by omega))
      exact this)
  exact this
theorem ltP_anti {a b : Pt} (h1 : ltP a b = false) (h2 : ltP b a = false) : a = b := by
  rw [ltP_f] at h1 h2
  exact Prod.ext (by omega) (by omega)
theorem uq_merge (n m : List Int) (h : n.length + m.length ≤ 1000) : uq (mrg ltI (uq n) (uq m)) = uq (n ++ m) := by
  refine up_eq (uq_up _) (uq_up _) fun x => ?_
  have hm : isort ltI (uq m) = uq m := isort_of_inc wkI _ (inc_ris.2 ((uq_up m).imp fun {a b} h => by omega))
  have hp : (mrg ltI (uq n) (uq m)).Perm (uq m ++ uq n) := by
    have := foldl_perm (lt := ltI) (uq m) (uq n)
    rw [← mrg_isort wkI, hm] at this
    exact this
  rw [mem_uq, mem_uq, hp.mem_iff, List.mem_append, List.mem_append, mem_uq, mem_uq]
  exact or_comm
theorem law04_OrderStays_true (x0 : List Pt) (x1 : List Int) (x2 : List Int) (k0 : ∀ y2 ∈ x0, I64 y2.1 ∧ I64 y2.2) (k1 : ∀ y2 ∈ x1, I64 y2) (k2 : ∀ y2 ∈ x2, I64 y2) : law04_OrderStays x0 x1 x2 = some true := by
  unfold law04_OrderStays law04_OrderStays_l1
  rw [cut60, bind_some', cut60, bind_some', cut60, bind_some']
  have hl0 : (x0.take 60).length ≤ 60 := by rw [List.length_take]; omega
  have hl1 : (x1.take 60).length ≤ 60 := by rw [List.length_take]; omega
  have hl2 : (x2.take 60).length ≤ 60 := by rw [List.length_take]; omega
  generalize x0.take 60 = l at *
  generalize x1.take 60 = n at *
  generalize x2.take 60 = m at *
  clear k0 k1 k2
  have hrl : l.reverse.length = l.length := List.length_reverse
  have := loopO_nat (body := fun s => law04_OrderStays_b1 l n m s.1 s.2) (fun k => (l.reverse.take k, (k : Int))) l.length true (fun k hk => by
    unfold law04_OrderStays_b1
    have e : sb (sb (l.length : Int) 1) (k : Int) = ((l.length - 1 - k : Nat) : Int) := by rw [sb_one (show l.length < 1000000000 by omega) (by omega), sb_in (by omega)]; omega
    simp only [dlt hk, if_true, e, ix_getD (0, 0) (show l.length - 1 - k < l.length by omega), bind_some']
    rw [app_le (by simp; omega), bind_some', ad_one (by omega), snoc_take (l := l.reverse) (0, 0) (by omega)]
    congr 5
    rw [List.getD_eq_getElem?_getD, List.getD_eq_getElem?_getD, List.getElem?_reverse hk]) (by
    unfold law04_OrderStays_b1
    have htk : l.reverse.take l.length = l.reverse := List.take_of_length_le (by omega)
    have hab : isort ltP l.reverse = isort ltP l := by
      refine List.Perm.eq_of_pairwise (le := fun a b => ltP b a = false) (fun a b _ _ h1 h2 => ltP_anti h2 h1) (isort_inc wkP _) (isort_inc wkP _) ?_
      exact (isort_perm _).trans ((List.reverse_perm l).trans (isort_perm l).symm)
    have hlen : (isort ltP l).length = l.length := isort_len l
    have hinc := isort_inc wkP l
    have hperm := isort_perm (lt := ltP) l
    simp only [dnlt (Nat.lt_irrefl _), Bool.false_eq_true, if_false, htk, Points_eq l (by omega), Points_eq l.reverse (by omega), bind_some', hab, hlen, decide_true, Bool.not_true, Bool.or_self]
    refine congrArg (Option.map Sum.inr) (?_ : _ = some true)
    generalize isort ltP l = s at *
    unfold law04_OrderStays_l2
    exact loopO_nat (body := fun i => law04_OrderStays_b2 l n m s s i) (fun i => (i : Int)) s.length true (fun i hi => by
      unfold law04_OrderStays_b2
      have hcount : ∀ r, law04_OrderStays_l3 l s (i : Int) (0, 0, 0) = some r ↔ r = .inl ((i + 1 : Nat) : Int) := fun r => by
        have hc := hperm.countP_eq (fun z => decide (z = s.getD i (0, 0)))
        have := loopO_nat (body := fun t => law04_OrderStays_b3 l s (i : Int) t.1 t.2.1 t.2.2) (fun k => ((((l.take k).countP (fun z => decide (z = s.getD i (0, 0))) : Nat) : Int), (((s.take k).countP (fun z => decide (z = s.getD i (0, 0))) : Nat) : Int), (k : Int))) l.length (Sum.inl (((i + 1 : Nat) : Int)) : Int ⊕ Bool) (fun k hk => by
          unfold law04_OrderStays_b3 law04_OrderStays_k5 law04_OrderStays_k4
          have c1 : (l.take k).countP (fun z => decide (z = s.getD i (0, 0))) ≤ k := Nat.le_trans List.countP_le_length (by rw [List.length_take]; omega)
          have c2 : (s.take k).countP (fun z => decide (z = s.getD i (0, 0))) ≤ k := Nat.le_trans List.countP_le_length (by rw [List.length_take]; omega)
          simp only [dlt hk, if_true, ix_getD (0, 0) hk, ix_getD (0, 0) hi, ix_getD (0, 0) (show k < s.length by omega), bind_some', ad_one (show k < 1000000000 by omega), ad_one (show (l.take k).countP (fun z => decide (z = s.getD i (0, 0))) < 1000000000 by omega), ad_one (show (s.take k).countP (fun z => decide (z = s.getD i (0, 0))) < 1000000000 by omega)]
          rw [snoc_take (l := l) (0, 0) hk, snoc_take (l := s) (0, 0) (show k < s.length by omega), List.countP_append, List.countP_append]
          generalize s.getD i (0, 0) = t
          generalize l.getD k (0, 0) = u
          generalize s.getD k (0, 0) = v
          by_cases h1 : u = t <;> by_cases h2 : v = t <;> simp [h1, h2, List.countP_cons]) (by
          unfold law04_OrderStays_b3
          simp only [dnlt (Nat.lt_irrefl _), Bool.false_eq_true, if_false]
          rw [← hlen, List.take_length, hlen, List.take_length, hc]
          simp only [decide_true, Bool.not_true, Bool.false_eq_true, if_false, ad_one (show i < 1000000000 by omega)]; rfl)
        have h' : law04_OrderStays_l3 l s (i : Int) (0, 0, 0) = some (.inl ((i + 1 : Nat) : Int)) := this
        rw [h']
        constructor
        · intro e; injection e with e; exact e.symm
        · intro e; rw [e]
      have hl3 := (hcount _).2 rfl
      by_cases h0 : i = 0
      · have hd : decide ((0 : Int) < (i : Int)) = false := by simp [h0]
        simp only [dlt hi, if_true, ix_getD (0, 0) hi, bind_some', decide_true, Bool.not_true, Bool.not_false, hd, Bool.and_false, gd_false, Bool.false_and, Bool.or_self, Bool.false_eq_true, if_false]
        exact hl3
      · have hd : decide ((0 : Int) < (i : Int)) = true := by simp only [decide_eq_true_eq]; omega
        have hord : ltP (s.getD i (0, 0)) (s.getD (i - 1) (0, 0)) = false := hinc.get (i := i - 1) (j := i) (by omega) (by rw [List.getD_eq_getElem?_getD, List.getElem?_eq_getElem (by omega)]; rfl) (by rw [List.getD_eq_getElem?_getD, List.getElem?_eq_getElem hi]; rfl)
        rw [ltP_f] at hord
        have d1 : decide ((s.getD i (0, 0)).1 < (s.getD (i - 1) (0, 0)).1) = false := decide_eq_false (by omega)
        simp only [dlt hi, if_true, ix_getD (0, 0) hi, bind_some', decide_true, Bool.not_true, Bool.not_false, hd, Bool.and_self, gd_true, sb_one (show i < 1000000000 by omega) (by omega), ix_getD (0, 0) (show i - 1 < s.length by omega), d1, Bool.true_and]
        by_cases he : (s.getD i (0, 0)).1 = (s.getD (i - 1) (0, 0)).1
        · have d2 : decide ((s.getD i (0, 0)).2 < (s.getD (i - 1) (0, 0)).2) = false := decide_eq_false (by omega)
          simp only [he, decide_true, gd_true, bind_some', d2, Bool.and_false, Bool.or_self, Bool.false_eq_true, if_false]
          exact hl3
        · simp only [he, decide_false, gd_false, bind_some', Bool.false_and, Bool.or_self, Bool.false_eq_true, if_false]
          exact hl3) (by
      unfold law04_OrderStays_b2
      have hu1 := uq_len n
      have hu2 := uq_len m
      have hmg : (mrg ltI (uq n) (uq m)).length ≤ 120 := by
        have hm : isort ltI (uq m) = uq m := isort_of_inc wkI _ (inc_ris.2 ((uq_up m).imp fun {a b} h => by omega))
        rw [← hm, mrg_isort wkI, foldl_len]; omega
      have hu3 := uq_len (n ++ m)
      rw [List.length_append] at hu3
      simp only [dnlt (Nat.lt_irrefl _), Bool.false_eq_true, if_false]
      rw [app_le (by simp; omega), bind_some', List.nil_append, app_le (by omega), bind_some']
      simp only [known04, bind_some', gd_true, Uniq_eq n (by omega), Uniq_eq m (by omega), Merge_eq _ _ (show (uq n).length + (uq m).length ≤ 1000000 by omega), Uniq_eq _ (show (mrg ltI (uq n) (uq m)).length ≤ 1000000 by omega), Uniq_eq (n ++ m) (by rw [List.length_append]; omega), uq_merge n m (by omega), Ints_eq _ _ (show (uq (n ++ m)).length ≤ 1000000 by omega) (show (uq (n ++ m)).length ≤ 1000000 by omega), decide_true, Bool.and_self, Option.map_some]))
  exact this
end Go.Proofs.Ythbjlgklmamhjaa.Pl
