/-
  Rings: the side of an edge, as a sum along the walk around. No program in sight.
-/
import Derived.Test.YthkmkmkcnljmaaaP03b
namespace Go.Proofs.Ythkmkmkcnljmaaa.Pl

/-- Twice the middle, and the way, of an edge. -/
def mid (a b : Pt) : Pt := (a.1 + b.1, a.2 + b.2)
def way (a b : Pt) : Pt := (b.1 - a.1, b.2 - a.2)
def sdZ (m : Pt) (e : Pt × Pt) : Int := (e.2.1 - e.1.1) * (m.2 - 2 * e.1.2) - (e.2.2 - e.1.2) * (m.1 - 2 * e.1.1)
def Has (m w : Pt) (e : Pt × Pt) : Prop := (¬ (e.2.1 - e.1.1) * w.2 = (e.2.2 - e.1.2) * w.1) ∧ sdZ m e = 0 ∧ (2 * min e.1.1 e.2.1 ≤ m.1 ∧ m.1 ≤ 2 * max e.1.1 e.2.1) ∧ 2 * min e.1.2 e.2.2 ≤ m.2 ∧ m.2 ≤ 2 * max e.1.2 e.2.2
instance (m w : Pt) (e : Pt × Pt) : Decidable (Has m w e) := by unfold Has; infer_instance
def Ovr (m w : Pt) (y : Int) : Prop := m.2 < 2 * y ∨ (w.1 < 0 ∧ m.2 = 2 * y)
instance (m w : Pt) (y : Int) : Decidable (Ovr m w y) := by unfold Ovr; infer_instance
def side (m w : Pt) (e : Pt × Pt) : Int := if sdZ m e = 0 then (e.2.1 - e.1.1) * w.1 + (e.2.2 - e.1.2) * w.2 else sdZ m e
def bsd (m w : Pt) (e : Pt × Pt) : Int :=
  if (¬ Ovr m w e.1.2 ∧ Ovr m w e.2.2) ∧ 0 < side m w e then 1 else if (Ovr m w e.1.2 ∧ ¬ Ovr m w e.2.2) ∧ side m w e < 0 then -1 else 0
theorem bsd_bd (m w : Pt) (e : Pt × Pt) : -1 ≤ bsd m w e ∧ bsd m w e ≤ 1 := by unfold bsd; split <;> (try split) <;> omega
section
variable {a b : Pt} {e : Pt × Pt} (ha : May a) (hb : May b) (h1 : May e.1) (h2 : May e.2)
include ha hb h1 h2
theorem parts_eq : ml (sb e.2.1 e.1.1) (sb (mid a b).2 (ml 2 e.1.2)) = (e.2.1 - e.1.1) * ((mid a b).2 - 2 * e.1.2) ∧ ml (sb e.2.2 e.1.2) (sb (mid a b).1 (ml 2 e.1.1)) = (e.2.2 - e.1.2) * ((mid a b).1 - 2 * e.1.1) ∧
    (-72057594037927936 ≤ (e.2.1 - e.1.1) * ((mid a b).2 - 2 * e.1.2) ∧ (e.2.1 - e.1.1) * ((mid a b).2 - 2 * e.1.2) ≤ 72057594037927936) ∧ (-72057594037927936 ≤ (e.2.2 - e.1.2) * ((mid a b).1 - 2 * e.1.1) ∧ (e.2.2 - e.1.2) * ((mid a b).1 - 2 * e.1.1) ≤ 72057594037927936) := by
  unfold May at ha hb h1 h2
  unfold mid
  simp only
  rw [sb_in (x := e.2.1) (by omega), sb_in (x := e.2.2) (by omega), ml_in (y := e.1.2) (by omega), ml_in (y := e.1.1) (by omega), sb_in (x := a.2 + b.2) (by omega), sb_in (x := a.1 + b.1) (by omega)]
  have q1 := ml_28 (a := e.2.1 - e.1.1) (b := a.2 + b.2 - 2 * e.1.2) (by omega) (by omega)
  have q2 := ml_28 (a := e.2.2 - e.1.2) (b := a.1 + b.1 - 2 * e.1.1) (by omega) (by omega)
  exact ⟨q1.1, q2.1, q1.2, q2.2⟩
theorem ways_eq : (ml (sb e.2.1 e.1.1) (way a b).2 = (e.2.1 - e.1.1) * (way a b).2 ∧ ml (sb e.2.2 e.1.2) (way a b).1 = (e.2.2 - e.1.2) * (way a b).1) ∧ ad (ml (sb e.2.1 e.1.1) (way a b).1) (ml (sb e.2.2 e.1.2) (way a b).2) = (e.2.1 - e.1.1) * (way a b).1 + (e.2.2 - e.1.2) * (way a b).2 := by
  unfold May at ha hb h1 h2
  unfold way
  simp only
  rw [sb_in (x := e.2.1) (by omega), sb_in (x := e.2.2) (by omega)]
  have q1 := ml_25 (a := e.2.1 - e.1.1) (b := b.2 - a.2) (by omega) (by omega)
  have q2 := ml_25 (a := e.2.2 - e.1.2) (b := b.1 - a.1) (by omega) (by omega)
  have q3 := ml_25 (a := e.2.1 - e.1.1) (b := b.1 - a.1) (by omega) (by omega)
  have q4 := ml_25 (a := e.2.2 - e.1.2) (b := b.2 - a.2) (by omega) (by omega)
  refine ⟨⟨q1.1, q2.1⟩, ?_⟩
  rw [q3.1, q4.1, ad_in (by omega)]
theorem has_eq : ring_beside_has (mid a b, way a b) e.1 e.2 = some (decide (Has (mid a b) (way a b) e)) := by
  have hd : decide (Has (mid a b) (way a b) e) = (!(decide ((e.2.1 - e.1.1) * (way a b).2 = (e.2.2 - e.1.2) * (way a b).1) || !decide ((e.2.1 - e.1.1) * ((mid a b).2 - 2 * e.1.2) = (e.2.2 - e.1.2) * ((mid a b).1 - 2 * e.1.1))) && (decide (2 * min e.1.1 e.2.1 ≤ (mid a b).1 ∧ (mid a b).1 ≤ 2 * max e.1.1 e.2.1) && decide (2 * min e.1.2 e.2.2 ≤ (mid a b).2 ∧ (mid a b).2 ≤ 2 * max e.1.2 e.2.2))) := by
    rw [Bool.eq_iff_iff]
    simp only [Bool.and_eq_true, decide_eq_true_eq, Bool.not_eq_true', Bool.or_eq_false_iff, decide_eq_false_iff_not, Bool.not_eq_false']
    unfold Has sdZ
    constructor
    · rintro ⟨q1, q2, q3, q4⟩; exact ⟨⟨q1, by omega⟩, q3, q4⟩
    · rintro ⟨⟨q1, q2⟩, q3, q4⟩; exact ⟨q1, by omega, q3, q4⟩
  rw [hd]
  have h9 : ∀ n c d : Int, May (c, d) → ring_beside_has_1 n c d = some (decide (2 * min c d ≤ n ∧ n ≤ 2 * max c d)) := by
    intro n c d hm
    unfold May at hm
    unfold ring_beside_has_1
    rw [mn_eq, mx_eq, ml_in (by simp only at hm; omega), ml_in (by simp only at hm; omega), bind_some']
    congr 1
    rw [Bool.eq_iff_iff]; simp only [Bool.and_eq_true, decide_eq_true_eq]
  unfold ring_beside_has
  simp only [bind_some']
  rw [(parts_eq ha hb h1 h2).1, (parts_eq ha hb h1 h2).2.1, (ways_eq ha hb h1 h2).1.1, (ways_eq ha hb h1 h2).1.2, h9 _ e.1.1 e.2.1 (by unfold May at h1 h2 ⊢; simp only; omega), h9 _ e.1.2 e.2.2 (by unfold May at h1 h2 ⊢; simp only; omega)]
  cases decide ((e.2.1 - e.1.1) * (way a b).2 = (e.2.2 - e.1.2) * (way a b).1) || !decide ((e.2.1 - e.1.1) * ((mid a b).2 - 2 * e.1.2) = (e.2.2 - e.1.2) * ((mid a b).1 - 2 * e.1.1))
  · simp only [Bool.false_eq_true, if_false, bind_some', Bool.not_false, Bool.true_and]
    cases decide (2 * min e.1.1 e.2.1 ≤ (mid a b).1 ∧ (mid a b).1 ≤ 2 * max e.1.1 e.2.1) <;> simp
  · simp
theorem side_eq : ring_beside_side (mid a b, way a b) e.1 e.2 = some (side (mid a b) (way a b) e) := by
  unfold ring_beside_side ring_beside_side_k1
  simp only [bind_some']
  have hp := parts_eq ha hb h1 h2
  rw [hp.1, hp.2.1, (ways_eq ha hb h1 h2).2, sb_in (by omega)]
  unfold side sdZ
  simp only [decide_eq_true_eq]
  split <;> rfl
end
theorem over_eq {a b : Pt} {y : Int} (ha : May a) (hb : May b) (hy : -16777216 ≤ y ∧ y ≤ 16777216) : ring_beside_over (mid a b, way a b) y = some (decide (Ovr (mid a b) (way a b) y)) := by
  unfold ring_beside_over
  rw [ml_in (by omega)]
  simp only [decide_eq_true_eq]
  split <;> (congr 1; rw [Bool.eq_iff_iff]; simp only [decide_eq_true_eq]; unfold Ovr; omega)
def HasR (l : List Pt) (a b : Pt) : Prop := ∃ e ∈ edg l, Has (mid a b) (way a b) e
instance (l : List Pt) (a b : Pt) : Decidable (HasR l a b) := by unfold HasR; infer_instance
def bZ (l : List Pt) (a b : Pt) : Int := sumZ ((edg l).map (bsd (mid a b) (way a b)))
def beside (l : List Pt) (a b : Pt) : Int × Bool := if ¬ a = b ∧ May a ∧ May b ∧ Ok l then if HasR l a b then (0, false) else (bZ l a b, true) else (0, false)
theorem Beside_eq {l : List Pt} (a b : Pt) (hn : l.length ≤ 1000) : ring_Beside l a b = some (beside l a b) := by
  unfold ring_Beside beside
  rw [Ok_eq (l := [a, b]) (by simp), Ok_eq (l := l) (by omega)]
  have h1 : decide (Ok [a, b]) = (decide (May a ∧ May b)) := by rw [Bool.eq_iff_iff]; simp [Ok]
  rw [h1]
  by_cases hab : a = b
  · rw [decide_eq_true hab, if_neg (show ¬ (¬ a = b ∧ May a ∧ May b ∧ Ok l) from fun h => h.1 hab)]
    simp
  rw [decide_eq_false hab]
  by_cases hm : May a ∧ May b
  case neg =>
    rw [decide_eq_false hm, if_neg (show ¬ (¬ a = b ∧ May a ∧ May b ∧ Ok l) from fun h => hm ⟨h.2.1, h.2.2.1⟩)]
    simp
  rw [decide_eq_true hm]
  by_cases hk : Ok l
  case neg =>
    rw [decide_eq_false hk, if_neg (show ¬ (¬ a = b ∧ May a ∧ May b ∧ Ok l) from fun h => hk h.2.2.2)]
    simp
  rw [decide_eq_true hk, if_pos (show ¬ a = b ∧ May a ∧ May b ∧ Ok l from ⟨hab, hm.1, hm.2, hk⟩)]
  simp only [Bool.not_false, Bool.not_true, gd_true, bind_some', Bool.or_false, Bool.false_eq_true, if_false]
  have hl := edg_len l
  have e0 : ((ad a.1 b.1, ad a.2 b.2), (sb b.1 a.1, sb b.2 a.2)) = (mid a b, way a b) := by
    have ha := hm.1
    have hb := hm.2
    unfold May at ha hb
    rw [ad_in (by omega), ad_in (by omega), sb_in (by omega), sb_in (by omega)]; rfl
  rw [edges_eq _ _ _ _ (by omega), fo_sum (bad := Has (mid a b) (way a b)) (w := bsd (mid a b) (way a b)) (d0 := ()) 1000000 1 (edg l) 0 (fun e he s hs => by
      have h := Ok_edg hk he
      unfold ring_Beside_b2
      rw [e0, has_eq hm.1 hm.2 h.1 h.2, bind_some']
      by_cases ho : Has (mid a b) (way a b) e
      · rw [decide_eq_true ho, if_pos rfl, if_pos ho]
      · rw [decide_eq_false ho, if_neg Bool.false_ne_true, if_neg ho, over_eq hm.1 hm.2 h.1.2.2, over_eq hm.1 hm.2 h.2.2.2, side_eq hm.1 hm.2 h.1 h.2]
        unfold ring_Beside_k1 bsd
        by_cases q1 : Ovr (mid a b) (way a b) e.1.2 <;> by_cases q2 : Ovr (mid a b) (way a b) e.2.2 <;> simp only [q1, q2, decide_true, decide_false, Bool.not_true, Bool.not_false, gd_true, gd_false, bind_some', Bool.and_true, Bool.and_false, Bool.true_and, Bool.false_and, Bool.false_eq_true, if_false, not_true, not_false_iff, true_and, and_true, false_and, and_false, Int.add_zero, decide_eq_true_eq]
        · by_cases q3 : side (mid a b) (way a b) e < 0
          · rw [if_pos q3, if_pos q3, sb_in (by omega)]; rfl
          · rw [if_neg q3, if_neg q3, Int.add_zero]
        · by_cases q3 : 0 < side (mid a b) (way a b) e
          · rw [if_pos q3, if_pos q3, ad_in (by omega)]
          · rw [if_neg q3, if_neg q3, Int.add_zero])
    (fun e _ => bsd_bd _ _ e) (by omega) (by omega) (by omega), Int.zero_add]
  by_cases ho : HasR l a b
  · rw [if_pos ho, if_pos (show ∃ x, x ∈ edg l ∧ Has (mid a b) (way a b) x from ho), rngO_inr]; rfl
  · rw [if_neg ho, if_neg (show ¬ ∃ x, x ∈ edg l ∧ Has (mid a b) (way a b) x from ho), rngO_inl]; rfl
end Go.Proofs.Ythkmkmkcnljmaaa.Pl
