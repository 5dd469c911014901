/-
  Chapter 04, plainly: rows and points in order, things put in, places found. No program in sight.
-/
import Derived.Test.YthbjlgklmamhjaaP04a
import Derived.Test.YthbjlgklmamhjaaOfs
namespace Go.Proofs.Ythbjlgklmamhjaa.Pl

/-! ### rows -/
theorem cmpI_eq (x y : Int) : cmp_Compare_int x y = some (if x < y then -1 else if y < x then 1 else 0) := by
  unfold cmp_Compare_int cmp_isNaN_int
  simp only [decide_true, Bool.not_true, bind_some', Bool.false_eq_true, if_false]
  by_cases h1 : x < y
  · rw [decide_eq_true h1, if_pos rfl, if_pos h1]
  · rw [decide_eq_false h1, if_neg (by decide), if_neg h1]
    by_cases h2 : y < x
    · rw [decide_eq_true h2, if_pos rfl, if_pos h2]
    · rw [decide_eq_false h2, if_neg (by decide), if_neg h2]
theorem Compare_eq (a b : List Int) (ha : a.length ≤ 1000000) (hb : b.length ≤ 1000000) : order_Compare a b = some (cmpL a b) := by
  unfold order_Compare slices_Compare_int_int slices_Compare_int_int_l1
  have key : ∀ n k : Nat, k ≤ a.length → k ≤ b.length → a.length - k = n → loopO (fun s => slices_Compare_int_int_b1 a b s) (k : Int) = some (cmpL (a.drop k) (b.drop k)) := by
    intro n
    induction n with
    | zero =>
      intro k h1 h2 h3
      have hk : k = a.length := by omega
      refine loopO_inr ?_
      unfold slices_Compare_int_int_b1
      rw [dnlt (by omega), if_neg (by decide), List.drop_of_length_le (by omega)]
      by_cases hkb : k < b.length
      · rw [drop_cons 0 hkb, dlt (by omega)]; rfl
      · rw [List.drop_of_length_le (by omega), dnlt (by omega)]; rfl
    | succ n ih =>
      intro k h1 h2 h3
      have hka : k < a.length := by omega
      by_cases hkb : k < b.length
      · have hd : decide ((b.length : Int) ≤ (k : Int)) = false := by simp only [decide_eq_false_iff_not]; omega
        rw [drop_cons 0 hka, drop_cons 0 hkb]
        unfold cmpL
        by_cases hlt : a.getD k 0 < b.getD k 0
        · rw [if_pos hlt]
          refine loopO_inr ?_
          unfold slices_Compare_int_int_b1
          simp only [dlt hka, if_true, ix_getD 0 hka, bind_some', hd, Bool.false_eq_true, if_false, ix_getD 0 hkb, cmpI_eq, if_pos hlt]; rfl
        · rw [if_neg hlt]
          by_cases hgt : b.getD k 0 < a.getD k 0
          · rw [if_pos hgt]
            refine loopO_inr ?_
            unfold slices_Compare_int_int_b1
            simp only [dlt hka, if_true, ix_getD 0 hka, bind_some', hd, Bool.false_eq_true, if_false, ix_getD 0 hkb, cmpI_eq, if_neg hlt, if_pos hgt]; rfl
          · rw [if_neg hgt, ← ih (k + 1) (by omega) (by omega) (by omega)]
            refine loopO_inl ?_
            unfold slices_Compare_int_int_b1
            simp only [dlt hka, if_true, ix_getD 0 hka, bind_some', hd, Bool.false_eq_true, if_false, ix_getD 0 hkb, cmpI_eq, if_neg hlt, if_neg hgt, decide_true, Bool.not_true, ad_one (show k < 1000000000 by omega)]
      · have hd : decide ((b.length : Int) ≤ (k : Int)) = true := by simp only [decide_eq_true_eq]; omega
        refine loopO_inr ?_
        unfold slices_Compare_int_int_b1
        simp only [dlt hka, if_true, ix_getD 0 hka, bind_some', hd]
        rw [List.drop_of_length_le (l := b) (by omega), drop_cons 0 hka]; rfl
  exact (congrArg (Option.bind · some) (key a.length 0 (Nat.zero_le _) (Nat.zero_le _) (by omega)))
theorem cmpL_flip : ∀ a b : List Int, cmpL b a = -cmpL a b
  | [], [] => rfl
  | [], _ :: _ => rfl
  | _ :: _, [] => rfl
  | x :: a, y :: b => by
    unfold cmpL
    by_cases h1 : x < y
    · rw [if_neg (by omega), if_pos h1, if_pos h1]; rfl
    · by_cases h2 : y < x
      · rw [if_pos h2, if_neg h1, if_pos h2]
      · rw [if_neg h2, if_neg h1, if_neg h1, if_neg h2, cmpL_flip a b]
theorem cmpL_le : ∀ {a b c : List Int}, cmpL a b ≤ 0 → cmpL b c ≤ 0 → cmpL a c ≤ 0
  | [], [], c, _, h2 => h2
  | [], _ :: _, [], _, _ => by simp [cmpL]
  | [], _ :: _, _ :: _, _, _ => by simp [cmpL]
  | _ :: _, [], _, h1, _ => by simp [cmpL] at h1
  | _ :: _, _ :: _, [], _, h2 => by simp [cmpL] at h2
  | x :: a, y :: b, z :: c, h1, h2 => by
    unfold cmpL at h1 h2 ⊢
    by_cases e1 : x < y
    · by_cases e2 : y < z
      · rw [if_pos (by omega)]; decide
      · rw [if_neg e2] at h2
        by_cases e3 : z < y
        · rw [if_pos e3] at h2; simp at h2
        · rw [if_pos (by omega)]; decide
    · rw [if_neg e1] at h1
      by_cases e2 : y < x
      · rw [if_pos e2] at h1; simp at h1
      · rw [if_neg e2] at h1
        have hxy : x = y := by omega
        subst hxy
        by_cases e3 : x < z
        · rw [if_pos e3]; decide
        · rw [if_neg e3] at h2 ⊢
          by_cases e4 : z < x
          · rw [if_pos e4] at h2; simp at h2
          · rw [if_neg e4] at h2 ⊢
            exact cmpL_le h1 h2
theorem cmpL_lt {a b c : List Int} (h1 : cmpL a b < 0) (h2 : cmpL b c < 0) : cmpL a c < 0 := by
  have h3 := cmpL_le (a := a) (b := b) (c := c) (by omega) (by omega)
  rcases Int.lt_or_eq_of_le h3 with h | h
  · exact h
  · have := cmpL_zero h
    subst this
    have := cmpL_flip a b
    omega
def ltR (L : List (List Int)) (x y : Int) : Bool := decide (cmpL (L.getD x.toNat []) (L.getD y.toNat []) < 0)
theorem wkR (L : List (List Int)) : Wk (ltR L) := by
  refine ⟨fun x => ?_, fun {x y z} h1 h2 => ?_, fun {x y z} h1 h2 => ?_⟩
  · simp [ltR, cmpL_self]
  · simp only [ltR, decide_eq_true_eq] at *
    exact cmpL_lt h1 h2
  · simp only [ltR, decide_eq_false_iff_not] at *
    have e1 := cmpL_flip (L.getD x.toNat []) (L.getD y.toNat [])
    have e2 := cmpL_flip (L.getD y.toNat []) (L.getD z.toNat [])
    have e3 := cmpL_flip (L.getD x.toNat []) (L.getD z.toNat [])
    have := cmpL_le (a := L.getD z.toNat []) (b := L.getD y.toNat []) (c := L.getD x.toNat []) (by omega) (by omega)
    omega
def nums (n : Nat) : List Int := (List.range n).map fun (i : Nat) => (i : Int)
theorem nums_len (n : Nat) : (nums n).length = n := by simp [nums]
theorem nums_snoc (n : Nat) : nums (n + 1) = nums n ++ [(n : Int)] := by simp [nums, List.range_succ]
theorem mem_nums {n : Nat} {x : Int} (h : x ∈ nums n) : ∃ k : Nat, k < n ∧ x = k := by
  obtain ⟨k, hk, rfl⟩ := List.mem_map.1 h
  exact ⟨k, List.mem_range.1 hk, rfl⟩
theorem Rows_eq (L : List (List Int)) (hL : L.length ≤ 1000000) (hr : ∀ x ∈ L, x.length ≤ 1000000) : order_Rows L = some (isort (ltR L) (nums L.length)) := by
  unfold order_Rows order_Rows_l1
  have hsort : order_sorted_int_Rows_1 (nums L.length) L = some (isort (ltR L) (nums L.length)) :=
    (show sortedG (fun x y => order_Rows_1 x y L) (nums L.length) = _ from sorted_eq (wkR L) _ (by rw [nums_len]; exact hL) fun x hx y hy => by
      obtain ⟨i, hi, rfl⟩ := mem_nums hx
      obtain ⟨j, hj, rfl⟩ := mem_nums hy
      unfold order_Rows_1
      rw [ix_getD [] hi, bind_some', ix_getD [] hj, bind_some', Compare_eq _ _ (hr _ (getD_mem hi)) (hr _ (getD_mem hj)), bind_some']; rfl)
  exact loopO_nat (body := fun s => order_Rows_b1 L s.1 s.2) (fun k => (nums k, (k : Int))) L.length _ (fun k hk => by
    unfold order_Rows_b1
    simp only [dlt hk, if_true]
    rw [app_le (by simp [nums]; omega), bind_some', ad_one (by omega), nums_snoc]) (by
    unfold order_Rows_b1
    simp only [dnlt (Nat.lt_irrefl _), Bool.false_eq_true, if_false, hsort]; rfl)
/-! ### points -/
def ltP (a b : Pt) : Bool := decide (a.1 < b.1) || (decide (a.1 = b.1) && decide (a.2 < b.2))
theorem ltP_t {a b : Pt} : ltP a b = true ↔ a.1 < b.1 ∨ a.1 = b.1 ∧ a.2 < b.2 := by simp [ltP]
theorem ltP_f {a b : Pt} : ltP a b = false ↔ ¬ (a.1 < b.1 ∨ a.1 = b.1 ∧ a.2 < b.2) := by rw [← ltP_t]; simp
theorem wkP : Wk ltP := ⟨fun x => by rw [ltP_f]; omega, fun h1 h2 => by rw [ltP_t] at *; omega, fun h1 h2 => by rw [ltP_f] at *; omega⟩
theorem Points_eq (l : List Pt) (hl : l.length ≤ 1000000) : order_Points l = some (isort ltP l) := by
  unfold order_Points
  rw [show order_sorted_api_Point_Less l = some (isort ltP l) from sorted_eq (ahead := exact_Less) wkP l hl fun x _ y _ => rfl]; rfl
theorem refLess_eq (a b : Pt) : ref01_Less a b = some (ltP a b) := by
  unfold ref01_Less ltP
  by_cases h : a.1 = b.1
  · simp [h]
  · simp [h]
/-! ### things put in -/
theorem Put_eq (l : List Int) (x : Int) (hl : l.length ≤ 1000000) (hi : Inc ltI l) : ref04_Put l x = some (insF ltI x l) := by
  unfold ref04_Put ref04_Put_l1
  obtain ⟨r, hr, hR⟩ := loopO_rule (body := fun s => ref04_Put_b1 l x s) (fun s => ∃ p : Nat, s = (p : Int) ∧ p ≤ l.length ∧ ∀ (j : Nat) y, p ≤ j → l[j]? = some y → ltI x y = true) (fun s => s.toNat) (fun r => r = insF ltI x l) (fun s hs => by
    obtain ⟨p, rfl, hp, h2⟩ := hs
    have hend : (p = 0 ∨ ∃ y, l[p - 1]? = some y ∧ ltI x y = false) → ((cut l 0 (p : Int)).bind fun x94 => (app ([] : List Int) x94).bind fun x96 => (app x96 [x]).bind fun x101 => (cut l (p : Int) (l.length : Int)).bind fun x107 => (app x101 x107).bind fun x109 => some x109) = some (insF ltI x l) := fun h1 => by
      rw [cut_to hp, bind_some', app_le (by simp; omega), bind_some', List.nil_append, app_le (by simp; omega), bind_some', cut_from hp, bind_some', app_le (by simp; omega), bind_some', insF_down wkI x hi hp h1 h2]
      simp
    unfold ref04_Put_b1
    by_cases h0 : p = 0
    · subst h0
      right
      refine ⟨insF ltI x l, ?_, rfl⟩
      have hh := hend (.inl rfl)
      simp only [Int.natCast_zero] at hh
      simp only [Int.natCast_zero, Int.lt_irrefl, decide_false, gd_false, bind_some', Bool.false_and, Bool.false_eq_true, if_false, hh]; rfl
    · have hd : decide ((0 : Int) < (p : Int)) = true := by simp only [decide_eq_true_eq]; omega
      have hget : l[p - 1]? = some (l.getD (p - 1) 0) := by rw [List.getD_eq_getElem?_getD, List.getElem?_eq_getElem (by omega)]; rfl
      simp only [hd, gd_true, sb_one (show p < 1000000000 by omega) (by omega), ix_getD 0 (show p - 1 < l.length by omega), bind_some', Bool.true_and]
      by_cases hlt : x < l.getD (p - 1) 0
      · left
        rw [decide_eq_true hlt]
        refine ⟨((p - 1 : Nat) : Int), rfl, ⟨p - 1, rfl, by omega, fun j y hj hy => ?_⟩, by simp only [Int.toNat_natCast]; omega⟩
        by_cases hjp : j = p - 1
        · subst hjp; rw [hget] at hy; injection hy with hy; rw [← hy]; exact decide_eq_true hlt
        · exact h2 j y (by omega) hy
      · right
        rw [decide_eq_false hlt]
        refine ⟨insF ltI x l, ?_, rfl⟩
        simp only [Bool.false_eq_true, if_false]
        rw [hend (.inr ⟨_, hget, decide_eq_false hlt⟩)]; rfl) (s := (l.length : Int)) ⟨l.length, rfl, Nat.le_refl _, fun j y hj hy => by rw [List.getElem?_eq_none hj] at hy; cases hy⟩
  rw [hr, hR]
theorem refPoints_eq (l : List Pt) (hl : l.length ≤ 1000000) : ref04_Points l = some (isort ltP l) := by
  unfold ref04_Points ref04_Points_l1
  exact loopO_nat (body := fun s => ref04_Points_b1 l s.1 s.2) (fun k => (isort ltP (l.take k), (k : Int))) l.length _ (fun k hk => by
    unfold ref04_Points_b1 ref04_Points_l2
    simp only [dlt hk, if_true]
    rw [snoc_take (0, 0) hk, isort_snoc]
    have hlen : (isort ltP (l.take k)).length = k := by rw [isort_len, List.length_take]; omega
    have hi := isort_inc wkP (l.take k)
    generalize isort ltP (l.take k) = o at *
    obtain ⟨r, hr, hR⟩ := loopO_rule (body := fun s => ref04_Points_b2 l o (k : Int) s) (fun s => ∃ p : Nat, s = (p : Int) ∧ p ≤ o.length ∧ ∀ (j : Nat) y, p ≤ j → o[j]? = some y → ltP (l.getD k (0, 0)) y = true) (fun s => s.toNat) (fun r => r = .inl (insF ltP (l.getD k (0, 0)) o, ((k + 1 : Nat) : Int))) (fun s hs => by
      obtain ⟨p, rfl, hp, h2⟩ := hs
      have hend : (p = 0 ∨ ∃ y, o[p - 1]? = some y ∧ ltP (l.getD k (0, 0)) y = false) → ((cut o 0 (p : Int)).bind fun x383 => (app ([] : List Pt) x383).bind fun x385 => (app x385 [l.getD k (0, 0)]).bind fun x391 => (cut o (p : Int) (o.length : Int)).bind fun x397 => (app x391 x397).bind fun x399 => some ((Sum.inl (x399, ad (k : Int) 1)) : (List Pt × Int) ⊕ List Pt)) = some (.inl (insF ltP (l.getD k (0, 0)) o, ((k + 1 : Nat) : Int))) := fun h1 => by
        rw [cut_to hp, bind_some', app_le (by simp; omega), bind_some', List.nil_append, app_le (by simp; omega), bind_some', cut_from hp, bind_some', app_le (by simp; omega), bind_some', insF_down wkP _ hi hp h1 h2, ad_one (by omega)]
        simp
      unfold ref04_Points_b2
      by_cases h0 : p = 0
      · subst h0
        right
        refine ⟨_, ?_, rfl⟩
        have hh := hend (.inl rfl)
        simp only [Int.natCast_zero] at hh
        simp only [Int.natCast_zero, Int.lt_irrefl, decide_false, gd_false, bind_some', Bool.false_and, Bool.false_eq_true, if_false, ix_getD (0, 0) hk, hh]; rfl
      · have hd : decide ((0 : Int) < (p : Int)) = true := by simp only [decide_eq_true_eq]; omega
        have hget : o[p - 1]? = some (o.getD (p - 1) (0, 0)) := by rw [List.getD_eq_getElem?_getD, List.getElem?_eq_getElem (by omega)]; rfl
        simp only [hd, gd_true, ix_getD (0, 0) hk, sb_one (show p < 1000000000 by omega) (by omega), ix_getD (0, 0) (show p - 1 < o.length by omega), bind_some', refLess_eq, Bool.true_and]
        cases hlt : ltP (l.getD k (0, 0)) (o.getD (p - 1) (0, 0)) with
        | true =>
          left
          refine ⟨((p - 1 : Nat) : Int), rfl, ⟨p - 1, rfl, by omega, fun j y hj hy => ?_⟩, by simp only [Int.toNat_natCast]; omega⟩
          by_cases hjp : j = p - 1
          · subst hjp; rw [hget] at hy; injection hy with hy; rw [← hy]; exact hlt
          · exact h2 j y (by omega) hy
        | false =>
          right
          refine ⟨_, ?_, rfl⟩
          simp only [Bool.false_eq_true, if_false]
          rw [hend (.inr ⟨_, hget, hlt⟩)]; rfl) (s := (o.length : Int)) ⟨o.length, rfl, Nat.le_refl _, fun j y hj hy => by rw [List.getElem?_eq_none hj] at hy; cases hy⟩
    rw [hr, hR]) (by
    unfold ref04_Points_b1
    simp only [dnlt (Nat.lt_irrefl _), Bool.false_eq_true, if_false, List.take_length]; rfl)
theorem refRows_eq (L : List (List Int)) (hL : L.length ≤ 1000000) (hrw : ∀ x ∈ L, x.length ≤ 1000000) : ref04_Rows L = some (isort (ltR L) (nums L.length)) := by
  unfold ref04_Rows ref04_Rows_l1
  exact loopO_nat (body := fun s => ref04_Rows_b1 L s.1 s.2) (fun k => (isort (ltR L) (nums k), (k : Int))) L.length _ (fun k hk => by
    unfold ref04_Rows_b1 ref04_Rows_l2
    simp only [dlt hk, if_true]
    rw [nums_snoc, isort_snoc]
    have hlen : (isort (ltR L) (nums k)).length = k := by rw [isort_len, nums_len]
    have hi := isort_inc (wkR L) (nums k)
    have hin : ∀ x ∈ isort (ltR L) (nums k), ∃ j : Nat, j < L.length ∧ x = j := fun x hx => by
      obtain ⟨j, hj, rfl⟩ := mem_nums ((isort_perm _).mem_iff.1 hx)
      exact ⟨j, by omega, rfl⟩
    generalize isort (ltR L) (nums k) = o at *
    obtain ⟨r, hr, hR⟩ := loopO_rule (body := fun s => ref04_Rows_b2 L o (k : Int) s) (fun s => ∃ p : Nat, s = (p : Int) ∧ p ≤ o.length ∧ ∀ (j : Nat) y, p ≤ j → o[j]? = some y → ltR L (k : Int) y = true) (fun s => s.toNat) (fun r => r = .inl (insF (ltR L) (k : Int) o, ((k + 1 : Nat) : Int))) (fun s hs => by
      obtain ⟨p, rfl, hp, h2⟩ := hs
      have hend : (p = 0 ∨ ∃ y, o[p - 1]? = some y ∧ ltR L (k : Int) y = false) → ((cut o 0 (p : Int)).bind fun x383 => (app ([] : List Int) x383).bind fun x385 => (app x385 [(k : Int)]).bind fun x391 => (cut o (p : Int) (o.length : Int)).bind fun x397 => (app x391 x397).bind fun x399 => some ((Sum.inl (x399, ad (k : Int) 1)) : (List Int × Int) ⊕ List Int)) = some (.inl (insF (ltR L) (k : Int) o, ((k + 1 : Nat) : Int))) := fun h1 => by
        rw [cut_to hp, bind_some', app_le (by simp; omega), bind_some', List.nil_append, app_le (by simp; omega), bind_some', cut_from hp, bind_some', app_le (by simp; omega), bind_some', insF_down (wkR L) _ hi hp h1 h2, ad_one (by omega)]
        simp
      unfold ref04_Rows_b2
      by_cases h0 : p = 0
      · subst h0
        right
        refine ⟨_, ?_, rfl⟩
        have hh := hend (.inl rfl)
        simp only [Int.natCast_zero] at hh
        simp only [Int.natCast_zero, Int.lt_irrefl, decide_false, gd_false, bind_some', Bool.false_and, Bool.false_eq_true, if_false, hh]; rfl
      · have hd : decide ((0 : Int) < (p : Int)) = true := by simp only [decide_eq_true_eq]; omega
        have hget : o[p - 1]? = some (o.getD (p - 1) 0) := by rw [List.getD_eq_getElem?_getD, List.getElem?_eq_getElem (by omega)]; rfl
        obtain ⟨j, hj, ej⟩ := hin _ (getD_mem (d := (0 : Int)) (show p - 1 < o.length by omega))
        have hc : ref04_Compare (L.getD k []) (L.getD j []) = some (cmpL (L.getD k []) (L.getD j [])) := refCompare_eq _ _ (hrw _ (getD_mem hk)) (hrw _ (getD_mem hj))
        simp only [hd, gd_true, ix_getD [] hk, sb_one (show p < 1000000000 by omega) (by omega), ix_getD 0 (show p - 1 < o.length by omega), bind_some', ej, ix_getD [] hj, hc, Bool.true_and]
        have hl : ltR L (k : Int) (o.getD (p - 1) 0) = decide (cmpL (L.getD k []) (L.getD j []) < 0) := by rw [ej]; rfl
        rw [← hl]
        cases hlt : ltR L (k : Int) (o.getD (p - 1) 0) with
        | true =>
          left
          refine ⟨((p - 1 : Nat) : Int), rfl, ⟨p - 1, rfl, by omega, fun j y hj hy => ?_⟩, by simp only [Int.toNat_natCast]; omega⟩
          by_cases hjp : j = p - 1
          · subst hjp; rw [hget] at hy; injection hy with hy; rw [← hy]; exact hlt
          · exact h2 j y (by omega) hy
        | false =>
          right
          refine ⟨_, ?_, rfl⟩
          simp only [Bool.false_eq_true, if_false]
          rw [hend (.inr ⟨_, hget, hlt⟩)]; rfl) (s := (o.length : Int)) ⟨o.length, rfl, Nat.le_refl _, fun j y hj hy => by rw [List.getElem?_eq_none hj] at hy; cases hy⟩
    rw [hr, hR]) (by
    unfold ref04_Rows_b1
    simp only [dnlt (Nat.lt_irrefl _), Bool.false_eq_true, if_false]; rfl)
/-! ### places found -/
def lb (l : List Int) (n : Int) : Nat := l.countP fun x => decide (x < n)
def ub (l : List Int) (n : Int) : Nat := l.countP fun x => decide (x ≤ n)
theorem lb_spec : ∀ {l : List Int} (n : Int), Ris l → ∀ j, j < l.length → (l.getD j 0 < n ↔ j < lb l n)
  | x :: t, n, h, j, hj => by
    have h' := List.pairwise_cons.1 h
    unfold lb
    rw [List.countP_cons]
    by_cases hx : x < n
    · rw [if_pos (decide_eq_true hx)]
      cases j with
      | zero => simp only [List.getD_cons_zero]; omega
      | succ j =>
        have := lb_spec n h'.2 j (by simpa using hj)
        unfold lb at this
        simp only [List.getD_cons_succ]
        omega
    · have h0 : t.countP (fun x => decide (x < n)) = 0 := by
        rw [List.countP_eq_zero]
        intro y hy
        have := h'.1 y hy
        simp only [decide_eq_true_eq]; omega
      rw [if_neg (by simp only [decide_eq_true_eq]; exact hx), h0]
      cases j with
      | zero => simp only [List.getD_cons_zero]; omega
      | succ j =>
        have hm := getD_mem (l := t) (d := 0) (i := j) (by simpa using hj)
        have := h'.1 _ hm
        simp only [List.getD_cons_succ]
        omega
theorem ub_spec : ∀ {l : List Int} (n : Int), Ris l → ∀ j, j < l.length → (l.getD j 0 ≤ n ↔ j < ub l n) := fun {l} n h j hj => by
  have := lb_spec (l := l) (n + 1) h j hj
  have e : lb l (n + 1) = ub l n := List.countP_congr fun x _ => by simp only [decide_eq_true_eq]; omega
  rw [e] at this
  rw [← this]
  omega
theorem lb_le (l : List Int) (n : Int) : lb l n ≤ l.length := List.countP_le_length
theorem ub_le (l : List Int) (n : Int) : ub l n ≤ l.length := List.countP_le_length
theorem lb_ub (l : List Int) (n : Int) : lb l n ≤ ub l n := List.countP_mono_left fun x _ h => by simp only [decide_eq_true_eq] at *; omega
def has (l : List Int) (n : Int) : Bool := decide (lb l n < ub l n)
theorem has_iff {l : List Int} {n : Int} (h : Ris l) : (lb l n < l.length ∧ l.getD (lb l n) 0 = n) ↔ lb l n < ub l n := by
  constructor
  · rintro ⟨h1, h2⟩
    exact (ub_spec n h _ h1).1 (by omega)
  · intro hlt
    have hl : lb l n < l.length := Nat.lt_of_lt_of_le hlt (ub_le l n)
    have h1 := (ub_spec n h _ hl).2 hlt
    have h2 := lb_spec n h _ hl
    refine ⟨hl, ?_⟩
    omega
theorem has_end {l : List Int} {n : Int} (h : Ris l) {p : Nat} (hp : p = lb l n) : ((gd (decide ((p : Int) < (l.length : Int))) (ix l (p : Int)) 0).bind fun x188 => (some ((decide ((p : Int) < (l.length : Int))) && (decide (x188 = n)))).bind fun x189 => some ((p : Int), x189)) = some ((lb l n : Int), has l n) := by
  subst hp
  unfold has
  by_cases hl : lb l n < l.length
  · rw [dlt hl, gd_true, ix_getD 0 hl, bind_some', bind_some', Bool.true_and]
    congr 2
    rw [Bool.eq_iff_iff, decide_eq_true_iff, decide_eq_true_iff]
    exact ⟨fun e => (has_iff h).1 ⟨hl, e⟩, fun e => ((has_iff h).2 e).2⟩
  · rw [dnlt hl, gd_false, bind_some', bind_some', Bool.false_and, decide_eq_false]
    exact fun e => hl ((has_iff h).2 e).1
theorem half (a b : Nat) (h : a < b) (hb : b ≤ 1000000) : ∃ m : Nat, quK .i64 (sb (b : Int) (a : Int)) 2 = some ((m : Nat) : Int) ∧ a + m < b ∧ ad (a : Int) ((m : Nat) : Int) = ((a + m : Nat) : Int) := by
  refine ⟨(b - a) / 2, ?_, by omega, by rw [ad_in (by omega)]; omega⟩
  rw [sb_in (by omega), show (b : Int) - (a : Int) = ((b - a : Nat) : Int) by omega]
  exact quK_nat _ (by omega)
theorem Find_eq (l : List Int) (n : Int) (hl : l.length ≤ 1000000) (h : Ris l) : order_Find l n = some ((lb l n : Int), has l n) := by
  have loop : ∀ m lo hi : Nat, hi - lo = m → lo ≤ lb l n → lb l n ≤ hi → hi ≤ l.length → order_Find_l1 l n ((lo : Int), (hi : Int)) = some ((lb l n : Int), has l n) := by
    intro m
    induction m using Nat.strongRecOn with
    | _ m ih =>
      intro lo hi hm h1 h2 h3
      by_cases he : lo = hi
      · refine loopO_inr ?_
        unfold order_Find_b1_0
        rw [decide_eq_true (by omega), if_pos rfl]
        have := has_end (l := l) (n := n) h (p := lo) (by omega)
        show ((gd (decide ((lo : Int) < (l.length : Int))) (ix l (lo : Int)) 0).bind fun x188 => (some ((decide ((lo : Int) < (l.length : Int))) && (decide (x188 = n)))).bind fun x189 => Option.map Sum.inr (some ((lo : Int), x189))) = _
        cases hg : gd (decide ((lo : Int) < (l.length : Int))) (ix l (lo : Int)) 0 with
        | none => rw [hg] at this; cases this
        | some v =>
          rw [hg] at this
          simp only [bind_some'] at this ⊢
          rw [this]; rfl
      · obtain ⟨q, hq, hqb, hqa⟩ := half lo hi (by omega) (by omega)
        have hs := lb_spec n h (lo + q) (by omega)
        have hne : decide ((lo : Int) = (hi : Int)) = false := by simp only [decide_eq_false_iff_not]; omega
        by_cases hlt : l.getD (lo + q) 0 < n
        · have hb : order_Find_b1_0 l n (lo : Int) (hi : Int) = some (.inl (((lo + q + 1 : Nat) : Int), (hi : Int))) := by
            unfold order_Find_b1_0 order_Find_k2
            simp only [hne, Bool.false_eq_true, if_false, hq, bind_some', hqa, ix_getD 0 (show lo + q < l.length by omega), decide_eq_true hlt, if_true, ad_one (show lo + q < 1000000000 by omega)]
          refine (loopO_inl hb).trans ?_
          exact ih (hi - (lo + q + 1)) (by omega) (lo + q + 1) hi rfl (by omega) h2 h3
        · have hb : order_Find_b1_0 l n (lo : Int) (hi : Int) = some (.inl ((lo : Int), ((lo + q : Nat) : Int))) := by
            unfold order_Find_b1_0 order_Find_k2
            simp only [hne, Bool.false_eq_true, if_false, hq, bind_some', hqa, ix_getD 0 (show lo + q < l.length by omega), decide_eq_false hlt]
          refine (loopO_inl hb).trans ?_
          exact ih (lo + q - lo) (by omega) lo (lo + q) rfl h1 (by omega) (by omega)
  unfold order_Find
  by_cases h0 : l.length = 0
  · rw [h0]
    have hd := has_end (l := l) (n := n) h (p := 0) (by have := lb_le l n; omega)
    rw [h0] at hd
    rw [← hd]; rfl
  · obtain ⟨q, hq, hqb, hqa⟩ := half 0 l.length (by omega) (by omega)
    have hne : decide ((0 : Int) = (l.length : Int)) = false := by simp only [decide_eq_false_iff_not]; omega
    have hs := lb_spec n h (0 + q) (by omega)
    have hle := lb_le l n
    rw [show (((0 : Nat) : Int)) = 0 from rfl] at hq hqa
    simp only [hne, Bool.false_eq_true, if_false, hq, bind_some', hqa, ix_getD 0 (show 0 + q < l.length by omega)]
    unfold order_Find_k3
    by_cases hlt : l.getD (0 + q) 0 < n
    · simp only [decide_eq_true hlt, if_true, ad_one (show 0 + q < 1000000000 by omega)]
      exact loop _ (0 + q + 1) l.length rfl (by omega) hle (Nat.le_refl _)
    · simp only [decide_eq_false hlt, Bool.false_eq_true, if_false]
      exact loop _ 0 (0 + q) rfl (by omega) (by omega) (by omega)
theorem refFind_eq (l : List Int) (n : Int) (hl : l.length ≤ 1000000) (h : Ris l) : ref04_Find l n = some ((lb l n : Int), has l n) := by
  unfold ref04_Find ref04_Find_l1
  have hle := lb_le l n
  have step : ∀ k, k < lb l n → ref04_Find_b1 l n (k : Int) = some (.inl ((k + 1 : Nat) : Int)) := fun k hk => by
    have hs := (lb_spec n h k (by omega)).2 hk
    unfold ref04_Find_b1
    have hd : decide (n ≤ l.getD k 0) = false := by simp only [decide_eq_false_iff_not]; omega
    simp only [dlt (show k < l.length by omega), if_true, ix_getD 0 (show k < l.length by omega), bind_some', hd, Bool.false_eq_true, if_false, ad_one (show k < 1000000000 by omega)]
  refine (loopO_up (body := fun s => ref04_Find_b1 l n s) (fun k => (k : Int)) (lb l n) step 0 (Nat.zero_le _)).trans ?_
  refine loopO_inr ?_
  unfold ref04_Find_b1
  by_cases hl2 : lb l n < l.length
  · have hs := lb_spec n h _ hl2
    have hd : decide (n ≤ l.getD (lb l n) 0) = true := by simp only [decide_eq_true_eq]; omega
    simp only [dlt hl2, if_true, ix_getD 0 hl2, bind_some', hd]
    have : decide (l.getD (lb l n) 0 = n) = has l n := by
      unfold has
      rw [Bool.eq_iff_iff, decide_eq_true_iff, decide_eq_true_iff]
      exact ⟨fun e => (has_iff h).1 ⟨hl2, e⟩, fun e => ((has_iff h).2 e).2⟩
    rw [this]; rfl
  · have hne : has l n = false := by
      unfold has
      rw [decide_eq_false_iff_not]
      exact fun e => hl2 ((has_iff h).2 e).1
    rw [dnlt hl2, hne, show lb l n = l.length by omega]; rfl
theorem Strips_eq (l : List Int) (n : Int) (hl : l.length ≤ 1000000) (h : Ris l) : order_Strips l n = some ((lb l n : Int), (ub l n : Int)) := by
  unfold order_Strips order_Strips_l1
  rw [Find_eq l n hl h, bind_some']
  have h1 := lb_ub l n
  have h2 := ub_le l n
  have step : ∀ k, k < ub l n - lb l n → order_Strips_b1 l n ((lb l n : Int), has l n) ((lb l n + k : Nat) : Int) = some (.inl ((lb l n + (k + 1) : Nat) : Int)) := fun k hk => by
    unfold order_Strips_b1
    have hh : has l n = true := decide_eq_true (by omega)
    have hx : l.getD (lb l n + k) 0 = n := by
      have e1 := (ub_spec n h (lb l n + k) (by omega)).2 (by omega)
      have e2 := lb_spec n h (lb l n + k) (by omega)
      omega
    simp only [hh, dlt (show lb l n + k < l.length by omega), Bool.and_self, bind_some', gd_true, ix_getD 0 (show lb l n + k < l.length by omega), hx, decide_true, if_true, ad_one (show lb l n + k < 1000000000 by omega)]
    rfl
  have := loopO_up (body := fun s => order_Strips_b1 l n ((lb l n : Int), has l n) s) (fun k => ((lb l n + k : Nat) : Int)) (ub l n - lb l n) step 0 (Nat.zero_le _)
  rw [Nat.add_zero, show lb l n + (ub l n - lb l n) = ub l n by omega] at this
  refine this.trans (loopO_inr ?_)
  unfold order_Strips_b1
  by_cases hu : ub l n < l.length
  · have hx := ub_spec n h _ hu
    have hd : decide (l.getD (ub l n) 0 = n) = false := by simp only [decide_eq_false_iff_not]; omega
    cases has l n with
    | false => simp
    | true =>
      simp only [dlt hu, Bool.and_self, bind_some', gd_true, ix_getD 0 hu, hd, Bool.and_false, Bool.false_eq_true, if_false]; rfl
  · simp [hu]
/-- Do two numbers belong to a common strip? -/
def Cm (l : List Int) (a b : Int) : Prop := ∀ x ∈ l, ¬ (a < x ∧ x < b) ∧ ¬ (b < x ∧ x < a)
instance (l : List Int) (a b : Int) : Decidable (Cm l a b) := by unfold Cm; infer_instance
theorem lb_ub_iff {l : List Int} (h : Ris l) {a b : Int} (hab : a < b) : lb l b ≤ ub l a ↔ ∀ x ∈ l, ¬ (a < x ∧ x < b) := by
  constructor
  · intro hle x hx hn
    obtain ⟨j, hj, rfl⟩ := mem_getD (d := 0) hx
    have h1 := (lb_spec b h j hj).1 hn.2
    have h2 := (ub_spec a h j hj)
    omega
  · intro hno
    refine Nat.le_of_not_lt fun hlt => ?_
    have hj : ub l a < l.length := Nat.lt_of_lt_of_le hlt (lb_le l b)
    have h1 := (lb_spec b h _ hj).2 hlt
    have h2 := (ub_spec a h _ hj)
    exact hno _ (getD_mem hj) ⟨by omega, h1⟩
theorem Common_eq (l : List Int) (a b : Int) (hl : l.length ≤ 1000000) (h : Ris l) : order_Common l a b = some (decide (Cm l a b)) := by
  unfold order_Common
  rw [Strips_eq l a hl h, Strips_eq l b hl h, bind_some', bind_some', bind_some']
  congr 1
  rw [Bool.eq_iff_iff]
  simp only [Bool.and_eq_true, decide_eq_true_eq]
  unfold Cm
  have h1 := lb_ub l a
  have h2 := lb_ub l b
  rcases Int.lt_trichotomy a b with hab | hab | hab
  · have h3 := lb_ub_iff h hab
    have h4 : lb l a ≤ ub l b := by
      refine Nat.le_trans ?_ h2
      exact List.countP_mono_left fun x _ hx => by simp only [decide_eq_true_eq] at *; omega
    constructor
    · rintro ⟨g1, g2⟩ x hx
      exact ⟨h3.1 (by omega) x hx, by omega⟩
    · intro g
      have := h3.2 fun x hx => (g x hx).1
      omega
  · subst hab
    constructor
    · intro _ x _; omega
    · intro _; omega
  · have h3 := lb_ub_iff h hab
    have h4 : lb l b ≤ ub l a := by
      refine Nat.le_trans ?_ h1
      exact List.countP_mono_left fun x _ hx => by simp only [decide_eq_true_eq] at *; omega
    constructor
    · rintro ⟨g1, g2⟩ x hx
      exact ⟨by omega, h3.1 (by omega) x hx⟩
    · intro g
      have := h3.2 fun x hx => (g x hx).2
      omega
theorem known04 : law04_known = some true := by
  unfold law04_known
  have r1 : Ris [4, 8] := by unfold Ris; simp
  rw [Rows_eq _ (by simp) (by simp), bind_some', Strips_eq _ _ (by simp) r1, bind_some', Common_eq _ _ _ (by simp) r1, Common_eq _ _ _ (by simp) r1]
  have e1 : isort (ltR [[2], [1, 9], [1], []]) (nums 4) = [3, 2, 1, 0] := by decide
  have e2 : lb [4, 8] 4 = 0 := by decide
  have e3 : ub [4, 8] 4 = 1 := by decide
  have e4 : decide (Cm [4, 8] 4 8) = true := by decide
  have e5 : decide (Cm [4, 8] 3 5) = false := by decide
  rw [show [[2], [1, 9], [1], ([] : List Int)].length = 4 from rfl, e1, e2, e3, e4, e5]
  decide
end Go.Proofs.Ythbjlgklmamhjaa.Pl
