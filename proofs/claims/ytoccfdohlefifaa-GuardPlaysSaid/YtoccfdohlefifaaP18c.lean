import Derived.Test.YtoccfdohlefifaaP18b
namespace Go.Proofs.Ytoccfdohlefifaa.Pl
set_option maxRecDepth 4000
theorem abs_mul {a b A B : Int} (h1 : -A ≤ a ∧ a ≤ A) (h2 : -B ≤ b ∧ b ≤ B) : -(A * B) ≤ a * b ∧ a * b ≤ A * B := by
  have h3 : 0 ≤ (A - a) * (B + b) := Int.mul_nonneg (by omega) (by omega)
  have h4 : 0 ≤ (A + a) * (B - b) := Int.mul_nonneg (by omega) (by omega)
  have h5 : 0 ≤ (A - a) * (B - b) := Int.mul_nonneg (by omega) (by omega)
  have h6 : 0 ≤ (A + a) * (B + b) := Int.mul_nonneg (by omega) (by omega)
  constructor <;> grind
theorem ml_25 {a b : Int} (h1 : -33554432 ≤ a ∧ a ≤ 33554432) (h2 : -33554432 ≤ b ∧ b ≤ 33554432) : ml a b = a * b ∧ -1125899906842624 ≤ a * b ∧ a * b ≤ 1125899906842624 := by
  have := abs_mul h1 h2
  exact ⟨ml_in (by omega), by omega⟩
def crossZ (a b c : Pt) : Int := (b.1 - a.1) * (c.2 - a.2) - (b.2 - a.2) * (c.1 - a.1)
def sg (n : Int) : Int := if 0 < n then 1 else if n < 0 then -1 else 0
theorem crossZ_bd {a b c : Pt} (ha : May a) (hb : May b) (hc : May c) : -2251799813685248 ≤ crossZ a b c ∧ crossZ a b c ≤ 2251799813685248 := by
  unfold May at ha hb hc
  have h1 := (ml_25 (a := b.1 - a.1) (b := c.2 - a.2) (by omega) (by omega)).2
  have h2 := (ml_25 (a := b.2 - a.2) (b := c.1 - a.1) (by omega) (by omega)).2
  unfold crossZ
  omega
theorem Right_true {l : List Pt} (hn : l.length ≤ 1000000) (h : ∀ p ∈ l, May p) : exact_Right l = some true := by
  rw [Right_eq l hn, decide_eq_true h]
theorem Cross_eq {a b c : Pt} (ha : May a) (hb : May b) (hc : May c) : exact_Cross a b c = some (crossZ a b c) := by
  unfold exact_Cross
  rw [Right_true (by simp) (by simp [ha, hb, hc])]
  have hbd := crossZ_bd ha hb hc
  unfold crossZ at hbd
  unfold May at ha hb hc
  simp only [bind_some', Bool.not_true, Bool.false_eq_true, if_false]
  rw [sb_in (x := b.1) (by omega), sb_in (x := c.2) (by omega), sb_in (x := b.2) (by omega), sb_in (x := c.1) (by omega)]
  have h1 := ml_25 (a := b.1 - a.1) (b := c.2 - a.2) (by omega) (by omega)
  have h2 := ml_25 (a := b.2 - a.2) (b := c.1 - a.1) (by omega) (by omega)
  rw [h1.1, h2.1, sb_in (by omega)]
  rfl
theorem Turn_eq {a b c : Pt} (ha : May a) (hb : May b) (hc : May c) : exact_Turn a b c = some (sg (crossZ a b c)) := by
  unfold exact_Turn sg
  rw [Cross_eq ha hb hc]
  simp only [bind_some', decide_eq_true_eq]
  split <;> (try split) <;> rfl
theorem sg_cases (n : Int) : (0 < n ∧ sg n = 1) ∨ (n = 0 ∧ sg n = 0) ∨ (n < 0 ∧ sg n = -1) := by
  unfold sg; split <;> (try split) <;> omega
theorem Less_eq (a b : Pt) : exact_Less a b = some (decide (a.1 < b.1 ∨ (a.1 = b.1 ∧ a.2 < b.2))) := by
  unfold exact_Less
  simp only [bind_some']
  congr 1
  rw [Bool.eq_iff_iff]
  simp
def On (a b p : Pt) : Prop := crossZ a b p = 0 ∧ (min a.1 b.1 ≤ p.1 ∧ p.1 ≤ max a.1 b.1) ∧ min a.2 b.2 ≤ p.2 ∧ p.2 ≤ max a.2 b.2
instance (a b p : Pt) : Decidable (On a b p) := by unfold On; infer_instance
theorem On_eq {a b p : Pt} (ha : May a) (hb : May b) (hp : May p) : exact_On a b p = some (decide (On a b p)) := by
  have hd : decide (On a b p) = (decide (crossZ a b p = 0) && (decide (min a.1 b.1 ≤ p.1 ∧ p.1 ≤ max a.1 b.1) && decide (min a.2 b.2 ≤ p.2 ∧ p.2 ≤ max a.2 b.2))) := by
    rw [Bool.eq_iff_iff]; simp only [Bool.and_eq_true, decide_eq_true_eq]; exact Iff.rfl
  rw [hd]
  unfold exact_On exact_between
  rw [Right_true (by simp) (by simp [ha, hb, hp])]
  simp only [bind_some', gd_true, Turn_eq ha hb hp, within_eq, mn_eq, mx_eq, Bool.true_and]
  have hs : decide (sg (crossZ a b p) = 0) = decide (crossZ a b p = 0) := by
    rw [Bool.eq_iff_iff]; simp only [decide_eq_true_eq]
    rcases sg_cases (crossZ a b p) with h' | h' | h' <;> omega
  rw [hs]
  cases decide (crossZ a b p = 0) <;> cases decide (min a.1 b.1 ≤ p.1 ∧ p.1 ≤ max a.1 b.1) <;> simp
theorem Put_eq (l : List Int) (x : Int) (hl : l.length ≤ 1000000) (hi : Inc ltI l) : ref04_Put l x = some (insF ltI x l) := by
  unfold ref04_Put ref04_Put_l1
  obtain ⟨r, hr, hR⟩ := loopO_rule (body := fun s => ref04_Put_b1 l x s) (fun s => ∃ p : Nat, s = (p : Int) ∧ p ≤ l.length ∧ ∀ (j : Nat) y, p ≤ j → l[j]? = some y → ltI x y = true) (fun s => s.toNat) (fun r => r = insF ltI x l) (fun s hs => by
    obtain ⟨p, rfl, hp, h2⟩ := hs
    have hend : (p = 0 ∨ ∃ y, l[p - 1]? = some y ∧ ltI x y = false) → ((cut l 0 (p : Int)).bind fun x94 => (app ([] : List Int) x94).bind fun x96 => (app x96 [x]).bind fun x101 => (cut l (p : Int) (l.length : Int)).bind fun x107 => (app x101 x107).bind fun x109 => some x109) = some (insF ltI x l) := fun h1 => by
      rw [cut_to hp, bind_some', app_le (by simp; omega), bind_some', List.nil_append, app_le (by simp; omega), bind_some', cut_from hp, bind_some', app_le (by simp; omega), bind_some', insF_down wkI x hi hp h1 h2]
      simp
    unfold ref04_Put_b1
    by_cases h0 : p = 0
    · subst h0
      right
      refine ⟨insF ltI x l, ?_, rfl⟩
      have hh := hend (.inl rfl)
      simp only [Int.natCast_zero] at hh
      simp only [Int.natCast_zero, Int.lt_irrefl, decide_false, gd_false, bind_some', Bool.false_and, Bool.false_eq_true, if_false, hh]; rfl
    · have hd : decide ((0 : Int) < (p : Int)) = true := by simp only [decide_eq_true_eq]; omega
      have hget : l[p - 1]? = some (l.getD (p - 1) 0) := by rw [List.getD_eq_getElem?_getD, List.getElem?_eq_getElem (by omega)]; rfl
      simp only [hd, gd_true, sb_one (show p < 1000000000 by omega) (by omega), ix_getD 0 (show p - 1 < l.length by omega), bind_some', Bool.true_and]
      by_cases hlt : x < l.getD (p - 1) 0
      · left
        rw [decide_eq_true hlt]
        refine ⟨((p - 1 : Nat) : Int), rfl, ⟨p - 1, rfl, by omega, fun j y hj hy => ?_⟩, by simp only [Int.toNat_natCast]; omega⟩
        by_cases hjp : j = p - 1
        · subst hjp; rw [hget] at hy; injection hy with hy; rw [← hy]; exact decide_eq_true hlt
        · exact h2 j y (by omega) hy
      · right
        rw [decide_eq_false hlt]
        refine ⟨insF ltI x l, ?_, rfl⟩
        simp only [Bool.false_eq_true, if_false]
        rw [hend (.inr ⟨_, hget, decide_eq_false hlt⟩)]; rfl) (s := (l.length : Int)) ⟨l.length, rfl, Nat.le_refl _, fun j y hj hy => by rw [List.getElem?_eq_none hj] at hy; cases hy⟩
  rw [hr, hR]
def lb (l : List Int) (n : Int) : Nat := l.countP fun x => decide (x < n)
def ub (l : List Int) (n : Int) : Nat := l.countP fun x => decide (x ≤ n)
theorem lb_spec : ∀ {l : List Int} (n : Int), Ris l → ∀ j, j < l.length → (l.getD j 0 < n ↔ j < lb l n)
  | x :: t, n, h, j, hj => by
    have h' := List.pairwise_cons.1 h
    unfold lb
    rw [List.countP_cons]
    by_cases hx : x < n
    · rw [if_pos (decide_eq_true hx)]
      cases j with
      | zero => simp only [List.getD_cons_zero]; omega
      | succ j =>
        have := lb_spec n h'.2 j (by simpa using hj)
        unfold lb at this
        simp only [List.getD_cons_succ]
        omega
    · have h0 : t.countP (fun x => decide (x < n)) = 0 := by
        rw [List.countP_eq_zero]
        intro y hy
        have := h'.1 y hy
        simp only [decide_eq_true_eq]; omega
      rw [if_neg (by simp only [decide_eq_true_eq]; exact hx), h0]
      cases j with
      | zero => simp only [List.getD_cons_zero]; omega
      | succ j =>
        have hm := getD_mem (l := t) (d := 0) (i := j) (by simpa using hj)
        have := h'.1 _ hm
        simp only [List.getD_cons_succ]
        omega
theorem ub_spec : ∀ {l : List Int} (n : Int), Ris l → ∀ j, j < l.length → (l.getD j 0 ≤ n ↔ j < ub l n) := fun {l} n h j hj => by
  have := lb_spec (l := l) (n + 1) h j hj
  have e : lb l (n + 1) = ub l n := List.countP_congr fun x _ => by simp only [decide_eq_true_eq]; omega
  rw [e] at this
  rw [← this]
  omega
theorem lb_le (l : List Int) (n : Int) : lb l n ≤ l.length := List.countP_le_length
theorem ub_le (l : List Int) (n : Int) : ub l n ≤ l.length := List.countP_le_length
theorem lb_ub (l : List Int) (n : Int) : lb l n ≤ ub l n := List.countP_mono_left fun x _ h => by simp only [decide_eq_true_eq] at *; omega
def has (l : List Int) (n : Int) : Bool := decide (lb l n < ub l n)
theorem has_iff {l : List Int} {n : Int} (h : Ris l) : (lb l n < l.length ∧ l.getD (lb l n) 0 = n) ↔ lb l n < ub l n := by
  constructor
  · rintro ⟨h1, h2⟩
    exact (ub_spec n h _ h1).1 (by omega)
  · intro hlt
    have hl : lb l n < l.length := Nat.lt_of_lt_of_le hlt (ub_le l n)
    have h1 := (ub_spec n h _ hl).2 hlt
    have h2 := lb_spec n h _ hl
    refine ⟨hl, ?_⟩
    omega
theorem has_end {l : List Int} {n : Int} (h : Ris l) {p : Nat} (hp : p = lb l n) : ((gd (decide ((p : Int) < (l.length : Int))) (ix l (p : Int)) 0).bind fun x188 => (some ((decide ((p : Int) < (l.length : Int))) && (decide (x188 = n)))).bind fun x189 => some ((p : Int), x189)) = some ((lb l n : Int), has l n) := by
  subst hp
  unfold has
  by_cases hl : lb l n < l.length
  · rw [dlt hl, gd_true, ix_getD 0 hl, bind_some', bind_some', Bool.true_and]
    congr 2
    rw [Bool.eq_iff_iff, decide_eq_true_iff, decide_eq_true_iff]
    exact ⟨fun e => (has_iff h).1 ⟨hl, e⟩, fun e => ((has_iff h).2 e).2⟩
  · rw [dnlt hl, gd_false, bind_some', bind_some', Bool.false_and, decide_eq_false]
    exact fun e => hl ((has_iff h).2 e).1
theorem half (a b : Nat) (h : a < b) (hb : b ≤ 1000000) : ∃ m : Nat, quK .i64 (sb (b : Int) (a : Int)) 2 = some ((m : Nat) : Int) ∧ a + m < b ∧ ad (a : Int) ((m : Nat) : Int) = ((a + m : Nat) : Int) := by
  refine ⟨(b - a) / 2, ?_, by omega, by rw [ad_in (by omega)]; omega⟩
  rw [sb_in (by omega), show (b : Int) - (a : Int) = ((b - a : Nat) : Int) by omega]
  exact quK_nat _ (by omega)
theorem oFind_eq (l : List Int) (n : Int) (hl : l.length ≤ 1000000) (h : Ris l) : order_Find l n = some ((lb l n : Int), has l n) := by
  have loop : ∀ m lo hi : Nat, hi - lo = m → lo ≤ lb l n → lb l n ≤ hi → hi ≤ l.length → order_Find_l1 l n ((lo : Int), (hi : Int)) = some ((lb l n : Int), has l n) := by
    intro m
    induction m using Nat.strongRecOn with
    | _ m ih =>
      intro lo hi hm h1 h2 h3
      by_cases he : lo = hi
      · refine loopO_inr ?_
        unfold order_Find_b1_0
        rw [decide_eq_true (by omega), if_pos rfl]
        have := has_end (l := l) (n := n) h (p := lo) (by omega)
        show ((gd (decide ((lo : Int) < (l.length : Int))) (ix l (lo : Int)) 0).bind fun x188 => (some ((decide ((lo : Int) < (l.length : Int))) && (decide (x188 = n)))).bind fun x189 => Option.map Sum.inr (some ((lo : Int), x189))) = _
        cases hg : gd (decide ((lo : Int) < (l.length : Int))) (ix l (lo : Int)) 0 with
        | none => rw [hg] at this; cases this
        | some v =>
          rw [hg] at this
          simp only [bind_some'] at this ⊢
          rw [this]; rfl
      · obtain ⟨q, hq, hqb, hqa⟩ := half lo hi (by omega) (by omega)
        have hs := lb_spec n h (lo + q) (by omega)
        have hne : decide ((lo : Int) = (hi : Int)) = false := by simp only [decide_eq_false_iff_not]; omega
        by_cases hlt : l.getD (lo + q) 0 < n
        · have hb : order_Find_b1_0 l n (lo : Int) (hi : Int) = some (.inl (((lo + q + 1 : Nat) : Int), (hi : Int))) := by
            unfold order_Find_b1_0 order_Find_k2
            simp only [hne, Bool.false_eq_true, if_false, hq, bind_some', hqa, ix_getD 0 (show lo + q < l.length by omega), decide_eq_true hlt, if_true, ad_one (show lo + q < 1000000000 by omega)]
          refine (loopO_inl hb).trans ?_
          exact ih (hi - (lo + q + 1)) (by omega) (lo + q + 1) hi rfl (by omega) h2 h3
        · have hb : order_Find_b1_0 l n (lo : Int) (hi : Int) = some (.inl ((lo : Int), ((lo + q : Nat) : Int))) := by
            unfold order_Find_b1_0 order_Find_k2
            simp only [hne, Bool.false_eq_true, if_false, hq, bind_some', hqa, ix_getD 0 (show lo + q < l.length by omega), decide_eq_false hlt]
          refine (loopO_inl hb).trans ?_
          exact ih (lo + q - lo) (by omega) lo (lo + q) rfl h1 (by omega) (by omega)
  unfold order_Find
  by_cases h0 : l.length = 0
  · rw [h0]
    have hd := has_end (l := l) (n := n) h (p := 0) (by have := lb_le l n; omega)
    rw [h0] at hd
    rw [← hd]; rfl
  · obtain ⟨q, hq, hqb, hqa⟩ := half 0 l.length (by omega) (by omega)
    have hne : decide ((0 : Int) = (l.length : Int)) = false := by simp only [decide_eq_false_iff_not]; omega
    have hs := lb_spec n h (0 + q) (by omega)
    have hle := lb_le l n
    rw [show (((0 : Nat) : Int)) = 0 from rfl] at hq hqa
    simp only [hne, Bool.false_eq_true, if_false, hq, bind_some', hqa, ix_getD 0 (show 0 + q < l.length by omega)]
    unfold order_Find_k3
    by_cases hlt : l.getD (0 + q) 0 < n
    · simp only [decide_eq_true hlt, if_true, ad_one (show 0 + q < 1000000000 by omega)]
      exact loop _ (0 + q + 1) l.length rfl (by omega) hle (Nat.le_refl _)
    · simp only [decide_eq_false hlt, Bool.false_eq_true, if_false]
      exact loop _ 0 (0 + q) rfl (by omega) (by omega) (by omega)
theorem Strips_eq (l : List Int) (n : Int) (hl : l.length ≤ 1000000) (h : Ris l) : order_Strips l n = some ((lb l n : Int), (ub l n : Int)) := by
  unfold order_Strips order_Strips_l1
  rw [oFind_eq l n hl h, bind_some']
  have h1 := lb_ub l n
  have h2 := ub_le l n
  have step : ∀ k, k < ub l n - lb l n → order_Strips_b1 l n ((lb l n : Int), has l n) ((lb l n + k : Nat) : Int) = some (.inl ((lb l n + (k + 1) : Nat) : Int)) := fun k hk => by
    unfold order_Strips_b1
    have hh : has l n = true := decide_eq_true (by omega)
    have hx : l.getD (lb l n + k) 0 = n := by
      have e1 := (ub_spec n h (lb l n + k) (by omega)).2 (by omega)
      have e2 := lb_spec n h (lb l n + k) (by omega)
      omega
    simp only [hh, dlt (show lb l n + k < l.length by omega), Bool.and_self, bind_some', gd_true, ix_getD 0 (show lb l n + k < l.length by omega), hx, decide_true, if_true, ad_one (show lb l n + k < 1000000000 by omega)]
    rfl
  have := loopO_up (body := fun s => order_Strips_b1 l n ((lb l n : Int), has l n) s) (fun k => ((lb l n + k : Nat) : Int)) (ub l n - lb l n) step 0 (Nat.zero_le _)
  rw [Nat.add_zero, show lb l n + (ub l n - lb l n) = ub l n by omega] at this
  refine this.trans (loopO_inr ?_)
  unfold order_Strips_b1
  by_cases hu : ub l n < l.length
  · have hx := ub_spec n h _ hu
    have hd : decide (l.getD (ub l n) 0 = n) = false := by simp only [decide_eq_false_iff_not]; omega
    cases has l n with
    | false => simp
    | true =>
      simp only [dlt hu, Bool.and_self, bind_some', gd_true, ix_getD 0 hu, hd, Bool.and_false, Bool.false_eq_true, if_false]; rfl
  · simp [hu]
def Cm (l : List Int) (a b : Int) : Prop := ∀ x ∈ l, ¬ (a < x ∧ x < b) ∧ ¬ (b < x ∧ x < a)
instance (l : List Int) (a b : Int) : Decidable (Cm l a b) := by unfold Cm; infer_instance
theorem lb_ub_iff {l : List Int} (h : Ris l) {a b : Int} (hab : a < b) : lb l b ≤ ub l a ↔ ∀ x ∈ l, ¬ (a < x ∧ x < b) := by
  constructor
  · intro hle x hx hn
    obtain ⟨j, hj, rfl⟩ := mem_getD (d := 0) hx
    have h1 := (lb_spec b h j hj).1 hn.2
    have h2 := (ub_spec a h j hj)
    omega
  · intro hno
    refine Nat.le_of_not_lt fun hlt => ?_
    have hj : ub l a < l.length := Nat.lt_of_lt_of_le hlt (lb_le l b)
    have h1 := (lb_spec b h _ hj).2 hlt
    have h2 := (ub_spec a h _ hj)
    exact hno _ (getD_mem hj) ⟨by omega, h1⟩
theorem Common_eq (l : List Int) (a b : Int) (hl : l.length ≤ 1000000) (h : Ris l) : order_Common l a b = some (decide (Cm l a b)) := by
  unfold order_Common
  rw [Strips_eq l a hl h, Strips_eq l b hl h, bind_some', bind_some', bind_some']
  congr 1
  rw [Bool.eq_iff_iff]
  simp only [Bool.and_eq_true, decide_eq_true_eq]
  unfold Cm
  have h1 := lb_ub l a
  have h2 := lb_ub l b
  rcases Int.lt_trichotomy a b with hab | hab | hab
  · have h3 := lb_ub_iff h hab
    have h4 : lb l a ≤ ub l b := by
      refine Nat.le_trans ?_ h2
      exact List.countP_mono_left fun x _ hx => by simp only [decide_eq_true_eq] at *; omega
    constructor
    · rintro ⟨g1, g2⟩ x hx
      exact ⟨h3.1 (by omega) x hx, by omega⟩
    · intro g
      have := h3.2 fun x hx => (g x hx).1
      omega
  · subst hab
    constructor
    · intro _ x _; omega
    · intro _; omega
  · have h3 := lb_ub_iff h hab
    have h4 : lb l b ≤ ub l a := by
      refine Nat.le_trans ?_ h1
      exact List.countP_mono_left fun x _ hx => by simp only [decide_eq_true_eq] at *; omega
    constructor
    · rintro ⟨g1, g2⟩ x hx
      exact ⟨by omega, h3.1 (by omega) x hx⟩
    · intro g
      have := h3.2 fun x hx => (g x hx).2
      omega
end Go.Proofs.Ytoccfdohlefifaa.Pl
