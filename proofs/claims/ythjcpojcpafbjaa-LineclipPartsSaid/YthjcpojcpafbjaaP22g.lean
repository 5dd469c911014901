/-
  Chapter 22, plainly: what is shown is just what lies within. No program in sight.
-/
import Derived.Test.YthjcpojcpafbjaaP22f
namespace Go.Proofs.Ythjcpojcpafbjaa.Pl

theorem Floor_ok {n d : Int} (hd : 1 ≤ d ∧ d ≤ 1152921504606846976) (hn : -1152921504606846976 ≤ n ∧ n ≤ 1152921504606846976) : ∃ q, exact_Floor n d = some (q, true) := by
  unfold exact_Floor
  have h0 : ¬ d = 0 := by omega
  simp only [within_eq, decide_eq_true hd, decide_eq_true hn, bind_some', Bool.not_true, Bool.not_false, gd_true, Bool.or_self, Bool.false_eq_true, if_false, quK, rmK, if_neg h0, exact_Floor_k1]
  split
  · exact ⟨_, rfl⟩
  · exact ⟨_, rfl⟩
theorem Round_ok {n d : Int} (hd : 1 ≤ d ∧ d ≤ 1152921504606846976) (hn : -1152921504606846976 ≤ n ∧ n ≤ 1152921504606846976) : ∃ q, exact_Round n d = some (q, true) := by
  obtain ⟨q, h⟩ := Floor_ok hd hn
  unfold exact_Round
  simp only [h, bind_some', Bool.not_true, Bool.false_eq_true, if_false, exact_Round_k1]
  split
  · exact ⟨_, rfl⟩
  · exact ⟨_, rfl⟩
theorem AtX_k1 (c : Int) (p q : Pt) : ∃ v, seg_AtX_k1 c p q = some (v, decide (May p ∧ May q ∧ p.1 < c ∧ c < q.1)) := by
  unfold seg_AtX_k1
  rw [Right2_eq, bind_some']
  by_cases h : May p ∧ May q
  · rw [decide_eq_true h]
    by_cases h2 : p.1 < c ∧ c < q.1
    · have d1 : decide (c ≤ p.1) = false := by simp only [decide_eq_false_iff_not]; omega
      have d2 : decide (q.1 ≤ c) = false := by simp only [decide_eq_false_iff_not]; omega
      have hR : decide (May p ∧ May q ∧ p.1 < c ∧ c < q.1) = true := decide_eq_true ⟨h.1, h.2, h2⟩
      simp only [d1, d2, Bool.not_true, Bool.or_self, bind_some', Bool.false_eq_true, if_false, hR]
      obtain ⟨hp, hq⟩ := h
      unfold May at hp hq
      have s1 : sb q.1 p.1 = q.1 - p.1 := sb_in (by omega)
      have s2' : sb q.2 p.2 = q.2 - p.2 := sb_in (by omega)
      have s3 : sb c p.1 = c - p.1 := sb_in (by omega)
      have b1 := abs_mul (a := p.2) (b := q.1 - p.1) (A := 33554432) (B := 33554432) (by omega) (by omega)
      have b2 := abs_mul (a := q.2 - p.2) (b := c - p.1) (A := 33554432) (B := 33554432) (by omega) (by omega)
      have m1 : ml p.2 (q.1 - p.1) = p.2 * (q.1 - p.1) := ml_in (by omega)
      have m2 : ml (q.2 - p.2) (c - p.1) = (q.2 - p.2) * (c - p.1) := ml_in (by omega)
      have a1 : ad (p.2 * (q.1 - p.1)) ((q.2 - p.2) * (c - p.1)) = p.2 * (q.1 - p.1) + (q.2 - p.2) * (c - p.1) := ad_in (by omega)
      rw [s1, s2', s3, m1, m2, a1]
      obtain ⟨v, hv⟩ := Round_ok (n := p.2 * (q.1 - p.1) + (q.2 - p.2) * (c - p.1)) (d := q.1 - p.1) (by omega) (by omega)
      exact ⟨v, by rw [hv]; rfl⟩
    · have hR : decide (May p ∧ May q ∧ p.1 < c ∧ c < q.1) = false := decide_eq_false fun h3 => h2 h3.2.2
      have : (decide (c ≤ p.1) || decide (q.1 ≤ c)) = true := by
        rw [Bool.or_eq_true, decide_eq_true_eq, decide_eq_true_eq]; omega
      simp only [Bool.not_true, Bool.false_or, this, bind_some', if_true, hR]
      exact ⟨0, rfl⟩
  · rw [decide_eq_false h, decide_eq_false fun h3 : May p ∧ May q ∧ p.1 < c ∧ c < q.1 => h ⟨h3.1, h3.2.1⟩]
    simp only [Bool.not_false, Bool.true_or, bind_some', if_true]
    exact ⟨0, rfl⟩
def Ct (p q c : Int) : Prop := p < c ∧ c < q ∨ q < c ∧ c < p
instance (p q c : Int) : Decidable (Ct p q c) := by unfold Ct; infer_instance
theorem AtX_eq (p q : Pt) (c : Int) : ∃ v, seg_AtX p q c = some (v, decide ((May p ∧ May q) ∧ Ct p.1 q.1 c)) := by
  unfold seg_AtX
  by_cases h : q.1 < p.1
  · rw [if_pos (by simpa using h)]
    obtain ⟨v, hv⟩ := AtX_k1 c q p
    refine ⟨v, hv.trans ?_⟩
    congr 2
    rw [decide_eq_decide]
    unfold Ct
    constructor
    · rintro ⟨h1, h2, h3⟩; exact ⟨⟨h2, h1⟩, .inr h3⟩
    · rintro ⟨⟨h1, h2⟩, h3⟩; exact ⟨h2, h1, by omega⟩
  · rw [if_neg (by simpa using h)]
    obtain ⟨v, hv⟩ := AtX_k1 c p q
    refine ⟨v, hv.trans ?_⟩
    congr 2
    rw [decide_eq_decide]
    unfold Ct
    constructor
    · rintro ⟨h1, h2, h3⟩; exact ⟨⟨h1, h2⟩, .inl h3⟩
    · rintro ⟨⟨h1, h2⟩, h3⟩; exact ⟨h1, h2, by omega⟩
theorem May_flip (p : Pt) : May (p.2, p.1) ↔ May p := by unfold May; simp only; omega
theorem AtY_eq (p q : Pt) (c : Int) : ∃ v, seg_AtY p q c = some (v, decide ((May p ∧ May q) ∧ Ct p.2 q.2 c)) := by
  unfold seg_AtY seg_flip
  obtain ⟨v, hv⟩ := AtX_eq (p.2, p.1) (q.2, q.1) c
  simp only [bind_some', hv]
  refine ⟨v, ?_⟩
  congr 2
  rw [decide_eq_decide, May_flip, May_flip]
theorem ref01_May_eq (p : Pt) : ref01_May p = some (decide (May p)) := by
  unfold ref01_May May
  simp only [bind_some']
  by_cases h1 : -16777216 ≤ p.1 <;> by_cases h2 : p.1 ≤ 16777216 <;> by_cases h3 : -16777216 ≤ p.2 <;> by_cases h4 : p.2 ≤ 16777216 <;> simp [h1, h2, h3, h4]
theorem cn_side {f w n d : Int} (h1 : 0 < n) (h2 : n < d) (h : 0 < f * d + w * n) (c1 : ¬ (f < 0 ∧ 0 < f + w)) (c2 : ¬ (0 < f ∧ f + w < 0)) : 0 ≤ f ∧ 0 ≤ f + w ∧ ¬ (f = 0 ∧ f + w = 0) := by
  have e : f * d + w * n = f * (d - n) + (f + w) * n := by rw [Int.mul_sub, Int.add_mul]; omega
  rw [e] at h
  have hdn : 0 < d - n := by omega
  refine ⟨?_, ?_, ?_⟩
  · apply Classical.byContradiction
    intro hf
    have a1 : f * (d - n) < 0 := Int.mul_neg_of_neg_of_pos (by omega) hdn
    have a2 : f + w ≤ 0 := by omega
    have a3 : (f + w) * n ≤ 0 := Int.mul_nonpos_of_nonpos_of_nonneg a2 (by omega)
    omega
  · apply Classical.byContradiction
    intro hf
    have a1 : (f + w) * n < 0 := Int.mul_neg_of_neg_of_pos (by omega) h1
    have a2 : f ≤ 0 := by omega
    have a3 : f * (d - n) ≤ 0 := Int.mul_nonpos_of_nonpos_of_nonneg a2 (by omega)
    omega
  · rintro ⟨e1, e2⟩
    rw [e1, Int.zero_mul] at h
    rw [e1] at e2
    rw [e2, Int.zero_mul] at h
    omega
theorem Edg_Shw {p q : Pt} {b : Bx} (hp : May p) (hq : May q) (hb : Rt b) (c1 : ¬ Ct p.1 q.1 b.1.1) (c2 : ¬ Ct p.1 q.1 b.2.1) (c3 : ¬ Ct p.2 q.2 b.1.2) (c4 : ¬ Ct p.2 q.2 b.2.2) : Edg p q b ↔ Shw p q b := by
  unfold Ct at c1 c2 c3 c4
  constructor
  · rintro ⟨h1, h2, h3, n, d, hd, hn, hnd, hc⟩
    have k1 := cn_side hn hnd (hc (p.1 - b.1.1, q.1 - p.1) (by simp [four])) (by simp only; omega) (by simp only; omega)
    have k2 := cn_side hn hnd (hc (b.2.1 - p.1, p.1 - q.1) (by simp [four])) (by simp only; omega) (by simp only; omega)
    have k3 := cn_side hn hnd (hc (p.2 - b.1.2, q.2 - p.2) (by simp [four])) (by simp only; omega) (by simp only; omega)
    have k4 := cn_side hn hnd (hc (b.2.2 - p.2, p.2 - q.2) (by simp [four])) (by simp only; omega) (by simp only; omega)
    simp only at k1 k2 k3 k4
    refine ⟨h1, h2, h3, ?_, ?_, ?_, ?_⟩
    · unfold In; omega
    · unfold In; omega
    · unfold Sd; omega
    · unfold Sd; omega
  · rintro ⟨h1, h2, h3, h4, h5, h6, h7⟩
    refine ⟨h1, h2, h3, 1, 2, by omega, by omega, by omega, fun x hx => ?_⟩
    unfold In at h4 h5
    unfold Sd at h6 h7
    simp only [four, List.mem_cons, List.not_mem_nil, or_false] at hx
    unfold Cn
    rcases hx with rfl | rfl | rfl | rfl <;> simp only <;> omega
theorem law22_LineclipMeets_true (x0 : List (Int × Int)) (x1 : (Int × Int) × (Int × Int)) (k0 : ∀ y2 ∈ x0, I64 y2.1 ∧ I64 y2.2) (k1 : (I64 x1.1.1 ∧ I64 x1.1.2) ∧ (I64 x1.2.1 ∧ I64 x1.2.2)) : law22_LineclipMeets x0 x1 = some true := by
  unfold law22_LineclipMeets law22_LineclipMeets_l1
  rw [Cut_eq, bind_some', rows_Right_eq, bind_some']
  have hm40 : (x0.take 40).length ≤ 40 := by rw [List.length_take]; omega
  generalize x0.take 40 = m at hm40
  by_cases hb : Rt x1
  · rw [decide_eq_true hb]
    simp only [Bool.not_true, Bool.false_eq_true, if_false]
    by_cases hm0 : m.length = 0
    · refine loopO_inr ?_
      unfold law22_LineclipMeets_b1
      rw [if_neg (by simp only [decide_eq_true_eq]; omega), known22]; rfl
    have := loopO_nat (body := fun s => law22_LineclipMeets_b1 x1 m s) (fun k => ((k + 1 : Nat) : Int)) (m.length - 1) true (fun k hk => by
      unfold law22_LineclipMeets_b1 law22_LineclipMeets_k2
      have es : sb ((k + 1 : Nat) : Int) 1 = (k : Int) := by rw [sb_in (by omega)]; omega
      have ek : ad ((k + 1 : Nat) : Int) 1 = ((k + 1 + 1 : Nat) : Int) := ad_one (by omega)
      simp only [dlt (show k + 1 < m.length by omega), if_true, es, ek, ix_getD (0, 0) (show k < m.length by omega), ix_getD (0, 0) (show k + 1 < m.length by omega), bind_some']
      generalize m.getD k (0, 0) = p
      generalize m.getD (k + 1) (0, 0) = q
      obtain ⟨v1, e1⟩ := AtX_eq p q x1.1.1
      obtain ⟨v2, e2⟩ := AtX_eq p q x1.2.1
      obtain ⟨v3, e3⟩ := AtY_eq p q x1.1.2
      obtain ⟨v4, e4⟩ := AtY_eq p q x1.2.2
      simp only [e1, e2, e3, e4, bind_some', law01_Of, ref01_May_eq]
      by_cases hp : May p
      · by_cases hq : May q
        · by_cases hc : ¬ Ct p.1 q.1 x1.1.1 ∧ ¬ Ct p.1 q.1 x1.2.1 ∧ ¬ Ct p.2 q.2 x1.1.2 ∧ ¬ Ct p.2 q.2 x1.2.2
          · have f1 : ∀ C : Prop, [Decidable C] → ¬ C → decide ((May p ∧ May q) ∧ C) = false := fun C _ h => decide_eq_false fun h' => h h'.2
            have hE := Edg_Shw hp hq hb hc.1 hc.2.1 hc.2.2.1 hc.2.2.2
            obtain ⟨r, hr, hri⟩ := Meets_eq [p, q] x1 (by simp)
            have hrs : r = decide (Shw p q x1) := by
              have h5 : r = true ↔ Shw p q x1 := by
                rw [hri, ← hE]
                constructor
                · rintro ⟨i, h6, h7, h8⟩
                  have : i = 1 := by simp at h7; omega
                  subst this
                  exact h8
                · exact fun h => ⟨1, by omega, by simp, h⟩
              by_cases h6 : Shw p q x1
              · rw [decide_eq_true h6, h5.2 h6]
              · rw [decide_eq_false h6]
                cases r with
                | false => rfl
                | true => exact (h6 (h5.1 rfl)).elim
            simp only [f1 _ hc.1, f1 _ hc.2.1, f1 _ hc.2.2.1, f1 _ hc.2.2.2, Bool.or_self, Bool.not_false, gd_true, bind_some', decide_eq_true hp, decide_eq_true hq, Bool.not_true, Bool.false_eq_true, if_false, hr, Shown_eq, hrs, beq_self_eq_true]
          · have hc' : (((decide ((May p ∧ May q) ∧ Ct p.1 q.1 x1.1.1) || decide ((May p ∧ May q) ∧ Ct p.1 q.1 x1.2.1)) || decide ((May p ∧ May q) ∧ Ct p.2 q.2 x1.1.2)) || decide ((May p ∧ May q) ∧ Ct p.2 q.2 x1.2.2)) = true := by
              simp only [Bool.or_eq_true, decide_eq_true_eq]
              apply Classical.byContradiction
              intro hno
              exact hc ⟨fun h => hno (.inl (.inl (.inl ⟨⟨hp, hq⟩, h⟩))), fun h => hno (.inl (.inl (.inr ⟨⟨hp, hq⟩, h⟩))), fun h => hno (.inl (.inr ⟨⟨hp, hq⟩, h⟩)), fun h => hno (.inr ⟨⟨hp, hq⟩, h⟩)⟩
            simp only [hc', Bool.not_true, gd_false, bind_some', Bool.true_or, if_true]
        · have f1 : ∀ C : Prop, [Decidable C] → decide ((May p ∧ May q) ∧ C) = false := fun C _ => decide_eq_false fun h' => hq h'.1.2
          simp only [f1, Bool.or_self, Bool.not_false, gd_true, bind_some', decide_eq_true hp, decide_eq_false hq, Bool.not_true, Bool.or_true, if_true]
      · have f1 : ∀ C : Prop, [Decidable C] → decide ((May p ∧ May q) ∧ C) = false := fun C _ => decide_eq_false fun h' => hp h'.1.1
        simp only [f1, Bool.or_self, Bool.not_false, gd_true, bind_some', decide_eq_false hp, Bool.or_true, gd_false, Bool.not_true, Bool.true_or, if_true]) (by
      unfold law22_LineclipMeets_b1
      rw [show m.length - 1 + 1 = m.length by omega]
      simp only [dnlt (Nat.lt_irrefl _), known22, bind_some']; rfl)
    exact this
  · rw [decide_eq_false hb]
    simp only [Bool.not_false, if_true, known22, bind_some']
end Go.Proofs.Ythjcpojcpafbjaa.Pl
