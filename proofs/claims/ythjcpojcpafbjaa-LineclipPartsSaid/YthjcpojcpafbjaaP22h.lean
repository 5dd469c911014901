/-
  Chapter 22, plainly: the document's answer. No program in sight.
-/
import Derived.Test.YthjcpojcpafbjaaP22g
namespace Go.Proofs.Ythjcpojcpafbjaa.Pl

/-! ### edges and parts -/
theorem ref06_Right_eq (b : Bx) : ref06_Right b = some (decide (Rt b)) := by
  unfold ref06_Right
  simp only [ref01_May_eq]
  by_cases h1 : May b.1 <;> by_cases h2 : May b.2 <;> by_cases h3 : b.1.1 ≤ b.2.1 <;> by_cases h4 : b.1.2 ≤ b.2.2 <;> simp [h1, h2, h3, h4, Rt, gd]
theorem ref06_Meet_pt (b : Bx) (p : Pt) : ref06_Meet b (p, p) = some (decide (Rt b ∧ May p ∧ In p b)) := by
  unfold ref06_Meet
  simp only [ref06_Right_eq]
  have hpp : Rt (p, p) ↔ May p := by unfold Rt; simp
  by_cases h1 : Rt b
  · by_cases h2 : May p
    · have h2' : Rt (p, p) := hpp.2 h2
      rw [decide_eq_true h1]
      simp only [bind_some', Bool.not_true, Bool.not_false, gd_true, decide_eq_true h2', Bool.or_self, Bool.false_eq_true, if_false]
      congr 1
      rw [mx_eq, mx_eq, mn_eq, mn_eq]
      by_cases h3 : In p b
      · rw [decide_eq_true (show Rt b ∧ May p ∧ In p b from ⟨h1, h2, h3⟩)]
        unfold In Rt at *
        rw [Bool.and_eq_true, decide_eq_true_eq, decide_eq_true_eq]; omega
      · rw [decide_eq_false (fun h : Rt b ∧ May p ∧ In p b => h3 h.2.2)]
        unfold In Rt at *
        rw [Bool.and_eq_false_iff, decide_eq_false_iff_not, decide_eq_false_iff_not]; omega
    · have h2' : ¬ Rt (p, p) := fun h => h2 (hpp.1 h)
      rw [decide_eq_true h1]
      simp only [bind_some', Bool.not_true, Bool.not_false, gd_true, decide_eq_false h2', Bool.or_true, if_true]
      rw [decide_eq_false (fun h : Rt b ∧ May p ∧ In p b => h2 h.2.1)]
  · rw [decide_eq_false h1]
    simp only [bind_some', Bool.not_true, Bool.not_false, gd_false, Bool.true_or, if_true]
    rw [decide_eq_false (fun h : Rt b ∧ May p ∧ In p b => h1 h.1)]
theorem ref22_Shown_eq (p q : Pt) (b : Bx) : ref22_Shown p q b = some (decide (Shw p q b)) := by
  unfold ref22_Shown
  simp only [ref06_Meet_pt]
  by_cases h1 : p = q
  · have : ¬ Shw p q b := fun h => h.1 h1
    rw [decide_eq_true h1]
    simp [gd, this]
  rw [decide_eq_false h1]
  simp only [Bool.not_false, gd_true, bind_some', Bool.false_or]
  by_cases h2 : Rt b ∧ May p ∧ In p b
  · rw [decide_eq_true h2]
    simp only [Bool.not_true, Bool.not_false, gd_true, bind_some', Bool.false_or]
    by_cases h3 : Rt b ∧ May q ∧ In q b
    · rw [decide_eq_true h3]
      simp only [Bool.not_true, Bool.false_eq_true, if_false]
      congr 1
      by_cases h6 : Sd p.1 q.1 b.1.1 b.2.1
      · have : ¬ Shw p q b := fun h => h.2.2.2.2.2.1 h6
        rw [decide_eq_false this]
        unfold Sd at h6
        rcases h6 with ⟨e, h | h⟩
        · simp [h, ← e]
        · simp [h, ← e]
      · by_cases h7 : Sd p.2 q.2 b.1.2 b.2.2
        · have : ¬ Shw p q b := fun h => h.2.2.2.2.2.2 h7
          rw [decide_eq_false this]
          unfold Sd at h7
          rcases h7 with ⟨e, h | h⟩
          · simp [h, ← e]
          · simp [h, ← e]
        · rw [decide_eq_true (show Shw p q b from ⟨h1, ⟨h2.2.1, h3.2.1⟩, h2.1, h2.2.2, h3.2.2, h6, h7⟩)]
          unfold Sd at h6 h7
          have d1 : (decide (p.1 = b.1.1) && decide (q.1 = b.1.1)) = false := by rw [Bool.and_eq_false_iff, decide_eq_false_iff_not, decide_eq_false_iff_not]; omega
          have d2 : (decide (p.1 = b.2.1) && decide (q.1 = b.2.1)) = false := by rw [Bool.and_eq_false_iff, decide_eq_false_iff_not, decide_eq_false_iff_not]; omega
          have d3 : (decide (p.2 = b.1.2) && decide (q.2 = b.1.2)) = false := by rw [Bool.and_eq_false_iff, decide_eq_false_iff_not, decide_eq_false_iff_not]; omega
          have d4 : (decide (p.2 = b.2.2) && decide (q.2 = b.2.2)) = false := by rw [Bool.and_eq_false_iff, decide_eq_false_iff_not, decide_eq_false_iff_not]; omega
          rw [d1, d2, d3, d4]; rfl
    · have : ¬ Shw p q b := fun h => h3 ⟨h.2.2.1, h.2.1.2, h.2.2.2.2.1⟩
      rw [decide_eq_false h3, decide_eq_false this]
      simp
  · have : ¬ Shw p q b := fun h => h2 ⟨h.2.2.1, h.2.1.1, h.2.2.2.1⟩
    rw [decide_eq_false h2, decide_eq_false this]
    simp [gd]
theorem refParts_eq (l : List Pt) (b : Bx) (hn : l.length ≤ 1000000) : ref22_Parts l b = some (parts l b) := by
  unfold ref22_Parts ref22_Parts_l1
  by_cases h0 : l.length = 0
  · refine loopO_inr ?_
    unfold ref22_Parts_b1
    rw [if_neg (by simp only [decide_eq_true_eq]; omega)]
    have : l = [] := List.length_eq_zero_iff.1 h0
    subst this; rfl
  have := loopO_nat (body := fun s => ref22_Parts_b1 l b s.1 s.2.1 s.2.2) (fun k => ((prt l b (k + 1)).1, (prt l b (k + 1)).2, ((k + 1 : Nat) : Int))) (l.length - 1) (parts l b) (fun k hk => by
    unfold ref22_Parts_b1 ref22_Parts_k2 ref22_Parts_k3
    have hg := prt_goes (l := l) (b := b) (k + 1) (by omega)
    have hs := prt_succ (l := l) (b := b) (i := k + 1) (by omega)
    have es : sb ((k + 1 : Nat) : Int) 1 = (k : Int) := by rw [sb_in (by omega)]; omega
    have ek : ad ((k + 1 : Nat) : Int) 1 = ((k + 1 + 1 : Nat) : Int) := ad_one (by omega)
    have hsh : ref22_Shown (l.getD k (0, 0)) (l.getD (k + 1) (0, 0)) b = some (sh l b (k + 1)) := by rw [ref22_Shown_eq]; rfl
    rw [hs]
    generalize prt l b (k + 1) = st at hg
    obtain ⟨out, goes⟩ := st
    simp only at hg
    simp only [dlt (show k + 1 < l.length by omega), if_true, es, ek, ix_getD (0, 0) (show k < l.length by omega), ix_getD (0, 0) (show k + 1 < l.length by omega), bind_some', hsh]
    cases hsv : sh l b (k + 1) with
    | false => simp
    | true =>
      cases goes with
      | false =>
        simp only [Bool.not_false, Bool.and_self, if_true, Bool.false_eq_true, if_false]
        have eo : sb ((out ++ [[l.getD k (0, 0)]]).length : Int) 1 = ((out.length : Nat) : Int) := by rw [List.length_append, sb_in (by simp; omega)]; simp
        rw [app_le (by rw [List.length_singleton]; omega), bind_some']
        simp only [eo]
        rw [ix_getD [] (show out.length < (out ++ [[l.getD k (0, 0)]]).length by simp), bind_some', getD_append_right (Nat.le_refl _), Nat.sub_self]
        simp only [show ([[l.getD k (0, 0)]] : List (List Pt)).getD 0 [] = [l.getD k (0, 0)] from rfl]
        rw [app_le (by simp), bind_some', bind_some', put_nat (by simp), bind_some', List.set_append_right _ _ (Nat.le_refl _), Nat.sub_self]
        rfl
      | true =>
        obtain ⟨f, hf, he, hp⟩ := hg.2 rfl
        have eo : sb (out.length : Int) 1 = ((out.length - 1 : Nat) : Int) := sb_one (by omega) hp
        have hlast : (out.getD (out.length - 1) []).length ≤ 1000000 := by
          conv => lhs; rw [he]
          have hl : (out.take (out.length - 1)).length = out.length - 1 := by rw [List.length_take]; omega
          rw [getD_append_right (by rw [List.length_append, hl]; simp), List.length_append, hl]
          simp; omega
        simp only [Bool.not_true, Bool.and_false, Bool.false_eq_true, if_false, if_true, eo, ix_getD [] (show out.length - 1 < out.length by omega), bind_some']
        rw [app_le (by rw [List.length_singleton]; omega), bind_some', put_nat (by omega), bind_some']) (by
    unfold ref22_Parts_b1
    rw [show l.length - 1 + 1 = l.length by omega]
    simp only [dnlt (Nat.lt_irrefl _)]; rfl)
  exact this
/-! ### within -/
theorem Floor1_eq {n d : Int} (hd : 0 < d) (hdb : d ≤ 4503599627370496) (hn : -4503599627370496 ≤ n ∧ n ≤ 4503599627370496) : ref01_Floor n d = some (n / d) := by
  unfold ref01_Floor ref01_Floor_k1
  have h0 : ¬ d = 0 := by omega
  have e1 : n.tmod d = n - d * n.tdiv d := Int.tmod_def n d
  have h1 : n.tmod d < d := Int.tmod_lt_of_pos n hd
  have h2 : -d < n.tmod d := by
    have := Int.tmod_lt_of_pos (-n) hd
    rw [Int.neg_tmod] at this
    omega
  simp only [rmK, if_neg h0, bind_some']
  have hdiv := Int.ediv_mul_le n h0
  have hq : ∀ left : Int, 0 ≤ left → left < d → (∃ k, n - left = d * k) → quK .i64 (sb n left) d = some (n / d) := by
    rintro left hl1 hl2 ⟨k, hk⟩
    have hu := (Int.ediv_emod_unique (a := n) (r := left) (q := k) hd).2 ⟨by omega, hl1, hl2⟩
    rw [hu.1, sb_in (by omega), hk]
    unfold quK
    rw [if_neg h0, Int.mul_tdiv_cancel_left k h0]
    have hk2 : -4503599627370497 ≤ k ∧ k ≤ 4503599627370497 := by
      rw [← hu.1]
      constructor
      · have := Int.ediv_le_ediv hd (show -4503599627370496 ≤ n from hn.1)
        have h5 : -4503599627370496 ≤ (-4503599627370496 : Int) / d := by
          rw [Int.le_ediv_iff_mul_le hd]
          have := Int.mul_le_mul_of_nonneg_left (show (1 : Int) ≤ d by omega) (show (0 : Int) ≤ 4503599627370496 by omega)
          omega
        omega
      · have h5 : n / d ≤ 4503599627370496 := by
          apply Int.ediv_le_of_le_mul hd
          have := Int.mul_le_mul_of_nonneg_left (show (1 : Int) ≤ d by omega) (show (0 : Int) ≤ 4503599627370496 by omega)
          omega
        omega
    rw [IntWalk.i64_in _ (by omega)]
  by_cases h3 : n.tmod d < 0
  · rw [decide_eq_true h3, if_pos rfl, ad_in (by omega), hq _ (by omega) (by omega) ⟨n.tdiv d - 1, by rw [Int.mul_sub]; omega⟩]; rfl
  · rw [decide_eq_false h3, if_neg (by simp), hq _ (by omega) (by omega) ⟨n.tdiv d, by omega⟩]; rfl
end Go.Proofs.Ythjcpojcpafbjaa.Pl
