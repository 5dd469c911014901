/-
  Chapter 22, plainly: has an edge a point strictly within a box? No program in sight.
-/
import Derived.Test.YthjcpojcpafbjaaP22c
namespace Go.Proofs.Ythjcpojcpafbjaa.Pl

/-! ### fractions -/
theorem fr_trans {a b c d e f : Int} (hb : 0 < b) (hd : 0 < d) (hf : 0 < f) (h1 : a * d < c * b) (h2 : c * f < e * d) : a * f < e * b := by
  have h3 : a * d * f < c * b * f := Int.mul_lt_mul_of_pos_right h1 hf
  have h4 : c * f * b < e * d * b := Int.mul_lt_mul_of_pos_right h2 hb
  have e1 : a * d * f = (a * f) * d := by rw [Int.mul_assoc, Int.mul_comm d f, ← Int.mul_assoc]
  have e2 : c * b * f = c * f * b := by rw [Int.mul_assoc, Int.mul_comm b f, ← Int.mul_assoc]
  have e3 : e * d * b = (e * b) * d := by rw [Int.mul_assoc, Int.mul_comm d b, ← Int.mul_assoc]
  have : (a * f) * d < (e * b) * d := by omega
  exact Int.lt_of_mul_lt_mul_right this (Int.le_of_lt hd)
theorem fr_le_lt {a b c d e f : Int} (hb : 0 < b) (hd : 0 < d) (hf : 0 < f) (h1 : c * b ≤ a * d) (h2 : a * f < e * b) : c * f < e * d := by
  have h3 : c * b * f ≤ a * d * f := Int.mul_le_mul_of_nonneg_right h1 (Int.le_of_lt hf)
  have h4 : a * f * d < e * b * d := Int.mul_lt_mul_of_pos_right h2 hd
  have e1 : c * b * f = (c * f) * b := by rw [Int.mul_assoc, Int.mul_comm b f, ← Int.mul_assoc]
  have e2 : a * d * f = a * f * d := by rw [Int.mul_assoc, Int.mul_comm d f, ← Int.mul_assoc]
  have e3 : e * b * d = (e * d) * b := by rw [Int.mul_assoc, Int.mul_comm b d, ← Int.mul_assoc]
  have : (c * f) * b < (e * d) * b := by omega
  exact Int.lt_of_mul_lt_mul_right this (Int.le_of_lt hb)
theorem fr_lt_le {a b c d e f : Int} (hb : 0 < b) (hd : 0 < d) (hf : 0 < f) (h1 : e * b < a * f) (h2 : a * d ≤ c * b) : e * d < c * f := by
  have h3 : e * b * d < a * f * d := Int.mul_lt_mul_of_pos_right h1 hd
  have h4 : a * d * f ≤ c * b * f := Int.mul_le_mul_of_nonneg_right h2 (Int.le_of_lt hf)
  have e1 : e * b * d = (e * d) * b := by rw [Int.mul_assoc, Int.mul_comm b d, ← Int.mul_assoc]
  have e2 : a * d * f = a * f * d := by rw [Int.mul_assoc, Int.mul_comm d f, ← Int.mul_assoc]
  have e3 : c * b * f = (c * f) * b := by rw [Int.mul_assoc, Int.mul_comm b f, ← Int.mul_assoc]
  have : (e * d) * b < (c * f) * b := by omega
  exact Int.lt_of_mul_lt_mul_right this (Int.le_of_lt hb)
theorem abs_mul {a b A B : Int} (h1 : -A ≤ a ∧ a ≤ A) (h2 : -B ≤ b ∧ b ≤ B) : -(A * B) ≤ a * b ∧ a * b ≤ A * B := by
  have hA : 0 ≤ A := by omega
  have hB : 0 ≤ B := by omega
  rcases Int.le_total 0 a with ha | ha <;> rcases Int.le_total 0 b with hb | hb
  · have := Int.mul_le_mul h1.2 h2.2 hb hA
    have := Int.mul_nonneg ha hb
    have := Int.mul_nonneg hA hB
    omega
  · have h3 := Int.mul_le_mul h1.2 (show -b ≤ B by omega) (by omega) hA
    have h4 := Int.mul_nonneg ha (show 0 ≤ -b by omega)
    rw [Int.mul_neg] at h3 h4
    have := Int.mul_nonneg hA hB
    omega
  · have h3 := Int.mul_le_mul (show -a ≤ A by omega) h2.2 hb hA
    have h4 := Int.mul_nonneg (show 0 ≤ -a by omega) hb
    rw [Int.neg_mul] at h3 h4
    have := Int.mul_nonneg hA hB
    omega
  · have h3 := Int.mul_le_mul (show -a ≤ A by omega) (show -b ≤ B by omega) (by omega) hA
    have h4 := Int.mul_nonneg (show 0 ≤ -a by omega) (show 0 ≤ -b by omega)
    rw [Int.neg_mul_neg] at h3 h4
    have := Int.mul_nonneg hA hB
    omega
/-- At the place n of d the number x.1 + x.2 (n / d) is above 0. -/
def Cn (x : Int × Int) (n d : Int) : Prop := 0 < x.1 * d + x.2 * n
def four (p q : Pt) (b : Bx) : List (Int × Int) := [(p.1 - b.1.1, q.1 - p.1), (b.2.1 - p.1, p.1 - q.1), (p.2 - b.1.2, q.2 - p.2), (b.2.2 - p.2, p.2 - q.2)]
/-- Has the edge, between its ends, a point strictly within? -/
def Ins (p q : Pt) (b : Bx) : Prop := ∃ n d : Int, 0 < d ∧ 0 < n ∧ n < d ∧ ∀ x ∈ four p q b, Cn x n d
def W (n : Int) : Prop := -33554432 ≤ n ∧ n ≤ 33554432
theorem W.mul {a b : Int} (h1 : W a) (h2 : W b) : ml a b = a * b := by
  have := abs_mul (A := 33554432) (B := 33554432) h1 h2
  exact ml_in (by omega)
theorem less_eq {x y : Int × Int} (h1 : W x.1) (h2 : W x.2) (h3 : W y.1) (h4 : W y.2) : lineclip_less x y = some (decide (x.1 * y.2 < y.1 * x.2)) := by
  unfold lineclip_less
  rw [h1.mul h4, h3.mul h2]
theorem four_W {p q : Pt} {b : Bx} (hp : May p) (hq : May q) (hb : Rt b) : ∀ x ∈ four p q b, W x.1 ∧ W x.2 := by
  intro x hx
  obtain ⟨h1, h2, _⟩ := hb
  simp only [four, List.mem_cons, List.not_mem_nil, or_false] at hx
  unfold May at *
  unfold W
  rcases hx with rfl | rfl | rfl | rfl <;> simp only <;> omega
theorem inside_eq (p q : Pt) (b : Bx) (hp : May p) (hq : May q) (hb : Rt b) : ∃ r, lineclip_inside p q b = some r ∧ (r = true ↔ Ins p q b) := by
  unfold lineclip_inside lineclip_inside_l1
  have hW := four_W hp hq hb
  have hF : [(sb p.1 b.1.1, sb q.1 p.1), (sb b.2.1 p.1, sb p.1 q.1), (sb p.2 b.1.2, sb q.2 p.2), (sb b.2.2 p.2, sb p.2 q.2)] = four p q b := by
    obtain ⟨h1, h2, _⟩ := hb
    unfold May at *
    rw [sb_in (by omega), sb_in (by omega), sb_in (by omega), sb_in (by omega), sb_in (by omega), sb_in (by omega), sb_in (by omega), sb_in (by omega)]
    rfl
  have hlen : (four p q b).length = 4 := rfl
  refine loopO_rule (body := fun s => lineclip_inside_b1 p q b s.1 s.2.1 s.2.2)
    (fun s => ∃ k : Nat, s.2.2 = k ∧ k ≤ 4 ∧ W s.1.1 ∧ W s.1.2 ∧ 0 < s.1.2 ∧ W s.2.1.1 ∧ W s.2.1.2 ∧ 0 < s.2.1.2 ∧ ∀ n d : Int, 0 < d → ((s.1.1 * d < n * s.1.2 ∧ n * s.2.1.2 < s.2.1.1 * d) ↔ (0 < n ∧ n < d ∧ ∀ x ∈ (four p q b).take k, Cn x n d)))
    (fun s => 4 - s.2.2.toNat) _ ?_ (s := ((0, 1), (1, 1), 0)) ⟨0, rfl, by omega, ⟨by decide, by decide⟩, ⟨by decide, by decide⟩, by decide, ⟨by decide, by decide⟩, ⟨by decide, by decide⟩, by decide, fun n d hd => by simp⟩
  rintro ⟨f, g, _⟩ ⟨k, rfl, hk, hf1, hf2, hf0, hg1, hg2, hg0, hI⟩
  simp only at hf1 hf2 hf0 hg1 hg2 hg0 hI ⊢
  unfold lineclip_inside_b1
  rw [hF]
  by_cases hlt : k < 4
  · have hd : decide ((k : Int) < 4) = true := by simp only [decide_eq_true_eq]; omega
    have ek : ad (k : Int) 1 = ((k + 1 : Nat) : Int) := ad_one (by omega)
    simp only [hd, if_true, ix_getD (0, 0) (show k < (four p q b).length by omega), bind_some', lineclip_inside_k2, ek]
    have hx := hW _ (getD_mem (d := (0, 0)) (show k < (four p q b).length by omega))
    have htk := snoc_take (l := four p q b) (k := k) (0, 0) (by omega)
    have hmem : (four p q b).getD k (0, 0) ∈ four p q b := getD_mem (by omega)
    generalize (four p q b).getD k (0, 0) = x at hx htk hmem
    have hall : ∀ n d : Int, (∀ y ∈ (four p q b).take (k + 1), Cn y n d) ↔ ((∀ y ∈ (four p q b).take k, Cn y n d) ∧ Cn x n d) := fun n d => by
      rw [htk]
      simp only [List.mem_append, List.mem_singleton]
      exact ⟨fun h => ⟨fun y hy => h y (.inl hy), h x (.inr rfl)⟩, fun h y hy => hy.elim (h.1 y) (fun e => e ▸ h.2)⟩
    have hms : 4 - ((k + 1 : Nat) : Int).toNat < 4 - (k : Int).toNat := by simp only [Int.toNat_natCast]; omega
    by_cases h0 : x.2 = 0
    · have hd0 : decide (x.2 = 0) = true := decide_eq_true h0
      simp only [hd0, if_true]
      by_cases h1 : x.1 ≤ 0
      · have hd1 : decide (x.1 ≤ 0) = true := decide_eq_true h1
        simp only [hd1, if_true]
        refine .inr ⟨false, rfl, by simp; rintro ⟨n, d, hd, hn, hn2, hc⟩; have := hc x hmem; unfold Cn at this; rw [h0, Int.zero_mul, Int.add_zero] at this; have := Int.mul_nonneg (show 0 ≤ -x.1 by omega) (Int.le_of_lt hd); rw [Int.neg_mul] at this; omega⟩
      · have hd1 : decide (x.1 ≤ 0) = false := decide_eq_false h1
        simp only [hd1, Bool.false_eq_true, if_false]
        refine .inl ⟨_, rfl, ⟨k + 1, rfl, by omega, hf1, hf2, hf0, hg1, hg2, hg0, fun n d hd => ?_⟩, hms⟩
        rw [hI n d hd, hall]
        have : Cn x n d := by
          unfold Cn
          rw [h0, Int.zero_mul, Int.add_zero]
          exact Int.mul_pos (by omega) hd
        exact ⟨fun h => ⟨h.1, h.2.1, h.2.2, this⟩, fun h => ⟨h.1, h.2.1, h.2.2.1⟩⟩
    · have hd0 : decide (x.2 = 0) = false := decide_eq_false h0
      simp only [hd0, Bool.false_eq_true, if_false]
      by_cases h2 : 0 < x.2
      · have hd2 : decide (0 < x.2) = true := decide_eq_true h2
        have en : ng x.1 = -x.1 := ng_in (by have := hx.1; unfold W at this; omega)
        have hnW : W (-x.1) := by have := hx.1; unfold W at *; omega
        simp only [hd2, if_true, en, less_eq (x := f) (y := (-x.1, x.2)) hf1 hf2 hnW hx.2, bind_some']
        have hC : ∀ n d : Int, Cn x n d ↔ -x.1 * d < n * x.2 := fun n d => by
          unfold Cn
          rw [Int.neg_mul, Int.mul_comm n x.2]
          omega
        by_cases hl : f.1 * x.2 < -x.1 * f.2
        · rw [decide_eq_true hl]
          simp only [if_true]
          refine .inl ⟨_, rfl, ⟨k + 1, rfl, by omega, hnW, hx.2, h2, hg1, hg2, hg0, fun n d hd => ?_⟩, hms⟩
          rw [hall, hC]
          have hII := hI n d hd
          constructor
          · rintro ⟨h3, h4⟩
            have h5 := hII.1 ⟨fr_trans hf0 h2 hd hl h3, h4⟩
            exact ⟨h5.1, h5.2.1, h5.2.2, h3⟩
          · rintro ⟨h3, h4, h5, h6⟩
            exact ⟨h6, (hII.2 ⟨h3, h4, h5⟩).2⟩
        · rw [decide_eq_false hl]
          simp only [Bool.false_eq_true, if_false]
          refine .inl ⟨_, rfl, ⟨k + 1, rfl, by omega, hf1, hf2, hf0, hg1, hg2, hg0, fun n d hd => ?_⟩, hms⟩
          rw [hall, hC]
          have hII := hI n d hd
          constructor
          · rintro ⟨h3, h4⟩
            have h5 := hII.1 ⟨h3, h4⟩
            exact ⟨h5.1, h5.2.1, h5.2.2, fr_le_lt hf0 h2 hd (Int.not_lt.1 hl) h3⟩
          · rintro ⟨h3, h4, h5, h6⟩
            exact hII.2 ⟨h3, h4, h5⟩
      · have hd2 : decide (0 < x.2) = false := decide_eq_false h2
        have en : ng x.2 = -x.2 := ng_in (by have := hx.2; unfold W at this; omega)
        have hnW : W (-x.2) := by have := hx.2; unfold W at *; omega
        have h20 : 0 < -x.2 := by omega
        simp only [hd2, Bool.false_eq_true, if_false, en, less_eq (x := (x.1, -x.2)) (y := g) hx.1 hnW hg1 hg2, bind_some']
        have hC : ∀ n d : Int, Cn x n d ↔ n * -x.2 < x.1 * d := fun n d => by
          unfold Cn
          rw [Int.mul_neg, Int.mul_comm n x.2]
          omega
        by_cases hl : x.1 * g.2 < g.1 * -x.2
        · rw [decide_eq_true hl]
          simp only [if_true]
          refine .inl ⟨_, rfl, ⟨k + 1, rfl, by omega, hf1, hf2, hf0, hx.1, hnW, h20, fun n d hd => ?_⟩, hms⟩
          rw [hall, hC]
          have hII := hI n d hd
          constructor
          · rintro ⟨h3, h4⟩
            have h5 := hII.1 ⟨h3, fr_trans hd h20 hg0 h4 hl⟩
            exact ⟨h5.1, h5.2.1, h5.2.2, h4⟩
          · rintro ⟨h3, h4, h5, h6⟩
            exact ⟨(hII.2 ⟨h3, h4, h5⟩).1, h6⟩
        · rw [decide_eq_false hl]
          simp only [Bool.false_eq_true, if_false]
          refine .inl ⟨_, rfl, ⟨k + 1, rfl, by omega, hf1, hf2, hf0, hg1, hg2, hg0, fun n d hd => ?_⟩, hms⟩
          rw [hall, hC]
          have hII := hI n d hd
          constructor
          · rintro ⟨h3, h4⟩
            have h5 := hII.1 ⟨h3, h4⟩
            exact ⟨h5.1, h5.2.1, h5.2.2, fr_lt_le hg0 h20 hd h4 (Int.not_lt.1 hl)⟩
          · rintro ⟨h3, h4, h5, h6⟩
            exact hII.2 ⟨h3, h4, h5⟩
  · have hd : decide ((k : Int) < 4) = false := by simp only [decide_eq_false_iff_not]; omega
    have hk4 : k = 4 := by omega
    subst hk4
    simp only [hd, Bool.false_eq_true, if_false, less_eq (x := f) (y := g) hf1 hf2 hg1 hg2, bind_some']
    refine .inr ⟨_, rfl, ?_⟩
    rw [decide_eq_true_eq]
    have ht : (four p q b).take 4 = four p q b := rfl
    rw [ht] at hI
    constructor
    · intro hl
      have := (hI (f.1 + g.1) (f.2 + g.2) (by omega)).1 ⟨by rw [Int.mul_add, Int.add_mul]; omega, by rw [Int.mul_add, Int.add_mul]; omega⟩
      exact ⟨f.1 + g.1, f.2 + g.2, by omega, this.1, this.2.1, this.2.2⟩
    · rintro ⟨n, d, hd0, h1, h2, h3⟩
      have := (hI n d hd0).2 ⟨h1, h2, h3⟩
      exact fr_trans hf0 hd0 hg0 this.1 this.2
theorem Ins_swap {p q : Pt} {b : Bx} (h : Ins p q b) : Ins q p b := by
  obtain ⟨n, d, h1, h2, h3, h4⟩ := h
  refine ⟨d - n, d, h1, by omega, by omega, fun x hx => ?_⟩
  have key : ∀ A B C D : Int, 0 < (A) * d + (B) * n → C = A + B → D = -B → 0 < C * d + D * (d - n) := by
    intro A B C D h e1 e2
    rw [e1, e2, Int.add_mul, Int.neg_mul, Int.mul_sub]
    omega
  simp only [four, List.mem_cons, List.not_mem_nil, or_false] at hx h4
  unfold Cn at *
  rcases hx with rfl | rfl | rfl | rfl
  · exact key _ _ _ _ (h4 (p.1 - b.1.1, q.1 - p.1) (by simp)) (by simp only; omega) (by simp only; omega)
  · exact key _ _ _ _ (h4 (b.2.1 - p.1, p.1 - q.1) (by simp)) (by simp only; omega) (by simp only; omega)
  · exact key _ _ _ _ (h4 (p.2 - b.1.2, q.2 - p.2) (by simp)) (by simp only; omega) (by simp only; omega)
  · exact key _ _ _ _ (h4 (b.2.2 - p.2, p.2 - q.2) (by simp)) (by simp only; omega) (by simp only; omega)
/-- Has an edge of a row a point strictly within? -/
def Edg (p q : Pt) (b : Bx) : Prop := p ≠ q ∧ (May p ∧ May q) ∧ Rt b ∧ Ins p q b
theorem Edg_swap {p q : Pt} {b : Bx} (h : Edg p q b) : Edg q p b := ⟨fun e => h.1 e.symm, ⟨h.2.1.2, h.2.1.1⟩, h.2.2.1, Ins_swap h.2.2.2⟩
theorem Meets_eq (l : List Pt) (b : Bx) (hn : l.length ≤ 1000000) : ∃ r, lineclip_Meets l b = some r ∧ (r = true ↔ ∃ i, 0 < i ∧ i < l.length ∧ Edg (l.getD (i - 1) (0, 0)) (l.getD i (0, 0)) b) := by
  unfold lineclip_Meets lineclip_Meets_l1
  by_cases h0 : l.length = 0
  · refine ⟨false, loopO_inr ?_, ?_⟩
    · unfold lineclip_Meets_b1
      rw [if_neg (by simp only [decide_eq_true_eq]; omega)]; rfl
    · simp only [Bool.false_eq_true, false_iff]
      rintro ⟨i, h1, h2, _⟩; omega
  refine loopO_rule (body := fun s => lineclip_Meets_b1 l b s) (fun s => ∃ k : Nat, s = k ∧ 0 < k ∧ k ≤ l.length ∧ ∀ i, 0 < i → i < k → ¬ Edg (l.getD (i - 1) (0, 0)) (l.getD i (0, 0)) b) (fun s => l.length - s.toNat) _ ?_ (s := 1) ⟨1, rfl, by omega, by omega, fun i h1 h2 => by omega⟩
  rintro _ ⟨k, rfl, hk0, hk, hno⟩
  unfold lineclip_Meets_b1
  by_cases hlt : k < l.length
  · have es : sb (k : Int) 1 = ((k - 1 : Nat) : Int) := sb_one (by omega) hk0
    have ek : ad (k : Int) 1 = ((k + 1 : Nat) : Int) := ad_one (by omega)
    simp only [dlt hlt, if_true, es, ek, ix_getD (0, 0) hlt, ix_getD (0, 0) (show k - 1 < l.length by omega), bind_some', rows_Right_eq]
    have hnext : ¬ Edg (l.getD (k - 1) (0, 0)) (l.getD k (0, 0)) b → ∀ i, 0 < i → i < k + 1 → ¬ Edg (l.getD (i - 1) (0, 0)) (l.getD i (0, 0)) b := fun h i h1 h2 => by
      by_cases he : i = k
      · rw [he]; exact h
      · exact hno i h1 (by omega)
    have hms : l.length - ((k + 1 : Nat) : Int).toNat < l.length - (k : Int).toNat := by simp only [Int.toNat_natCast]; omega
    have hfound : Edg (l.getD (k - 1) (0, 0)) (l.getD k (0, 0)) b → ∃ i, 0 < i ∧ i < l.length ∧ Edg (l.getD (i - 1) (0, 0)) (l.getD i (0, 0)) b := fun h => ⟨k, hk0, hlt, h⟩
    generalize l.getD (k - 1) (0, 0) = p at hnext hfound ⊢
    generalize l.getD k (0, 0) = q at hnext hfound ⊢
    by_cases h1 : p = q
    · have hE : ¬ Edg p q b := fun h => h.1 h1
      have hd1 : (!decide (p = q)) = false := by rw [decide_eq_true h1]; rfl
      simp only [hd1, gd_false, bind_some', Bool.false_and, Bool.false_eq_true, if_false]
      exact .inl ⟨_, rfl, ⟨k + 1, rfl, by omega, by omega, hnext hE⟩, hms⟩
    · have hd1 : (!decide (p = q)) = true := by rw [decide_eq_false h1]; rfl
      simp only [hd1, gd_true, bind_some', Right2_eq, Bool.true_and]
      by_cases h2 : May p ∧ May q
      · by_cases h3 : Rt b
        · obtain ⟨r, hr, hri⟩ := inside_eq p q b h2.1 h2.2 h3
          rw [decide_eq_true h2]
          simp only [gd_true, bind_some', Bool.true_and, decide_eq_true h3, hr]
          by_cases h4 : r = true
          · rw [h4]
            simp only [if_true]
            exact .inr ⟨true, rfl, ⟨fun _ => hfound ⟨h1, h2, h3, hri.1 h4⟩, fun _ => rfl⟩⟩
          · have h4' : r = false := by simpa using h4
            rw [h4']
            simp only [Bool.false_eq_true, if_false]
            exact .inl ⟨_, rfl, ⟨k + 1, rfl, by omega, by omega, hnext fun h => h4 (hri.2 h.2.2.2)⟩, hms⟩
        · have hE : ¬ Edg p q b := fun h => h3 h.2.2.1
          rw [decide_eq_true h2]
          simp only [gd_true, gd_false, bind_some', Bool.true_and, Bool.and_true, decide_eq_false h3, Bool.false_eq_true, if_false, Bool.and_self]
          exact .inl ⟨_, rfl, ⟨k + 1, rfl, by omega, by omega, hnext hE⟩, hms⟩
      · have hE : ¬ Edg p q b := fun h => h2 h.2.1
        rw [decide_eq_false h2]
        simp only [gd_false, bind_some', Bool.false_and, Bool.false_eq_true, if_false]
        exact .inl ⟨_, rfl, ⟨k + 1, rfl, by omega, by omega, hnext hE⟩, hms⟩
  · simp only [dnlt hlt]
    refine .inr ⟨false, rfl, ?_⟩
    simp only [Bool.false_eq_true, false_iff]
    rintro ⟨i, h1, h2, h3⟩
    exact hno i h1 (by omega) h3
end Go.Proofs.Ythjcpojcpafbjaa.Pl
