/-
  Plain geometry of layer 1: what is moved together lies as it did. No program in sight.
-/
import Derived.Test.YtefhfbefgeadaaaGeo02
namespace Go.Proofs.Ytefhfbefgeadaaa
open Go.RowKit
def addP (v p : Pt) : Pt := (p.1 + v.1, p.2 + v.2)
/-- So far may points be that are moved. -/
def smallP (p : Pt) : Bool := decide (imax p.1 p.2 ≤ 4194304) && decide (-4194304 ≤ imin p.1 p.2)
theorem smallP_bd {p : Pt} (h : smallP p = true) : -4194304 ≤ p.1 ∧ p.1 ≤ 4194304 ∧ -4194304 ≤ p.2 ∧ p.2 ≤ 4194304 := by
  simp only [smallP, imin_eq, imax_eq, Bool.and_eq_true, decide_eq_true_eq] at h
  obtain ⟨h1, h2⟩ := h
  omega
theorem small_right {p : Pt} (h : -8388608 ≤ p.1 ∧ p.1 ≤ 8388608 ∧ -8388608 ≤ p.2 ∧ p.2 ≤ 8388608) : rightB p = true := by
  simp only [rightB, inB, Bool.and_eq_true, decide_eq_true_eq]
  omega

theorem crossZ_move (v a b c : Pt) : crossZ (addP v a) (addP v b) (addP v c) = crossZ a b c := by
  simp only [crossZ, addP]
  rw [show b.1 + v.1 - (a.1 + v.1) = b.1 - a.1 by omega, show c.2 + v.2 - (a.2 + v.2) = c.2 - a.2 by omega, show b.2 + v.2 - (a.2 + v.2) = b.2 - a.2 by omega, show c.1 + v.1 - (a.1 + v.1) = c.1 - a.1 by omega]
theorem cross_move {v a b c : Pt} (ha : rightB a = true) (hb : rightB b = true) (hc : rightB c = true) (ha' : rightB (addP v a) = true) (hb' : rightB (addP v b) = true) (hc' : rightB (addP v c) = true) :
    cross (addP v a) (addP v b) (addP v c) = cross a b c := by
  simp only [cross, ha, hb, hc, ha', hb', hc', crossZ_move]
theorem turn_move {v a b c : Pt} (ha : rightB a = true) (hb : rightB b = true) (hc : rightB c = true) (ha' : rightB (addP v a) = true) (hb' : rightB (addP v b) = true) (hc' : rightB (addP v c) = true) :
    turn (addP v a) (addP v b) (addP v c) = turn a b c := by
  simp only [turn, cross_move ha hb hc ha' hb' hc']
theorem between_move (v a b p : Pt) : betweenB (addP v a) (addP v b) (addP v p) = betweenB a b p := by
  rw [Bool.eq_iff_iff, betweenB_iff, betweenB_iff]
  simp only [addP, btw]
  omega
theorem on_move {v a b p : Pt} (ha : rightB a = true) (hb : rightB b = true) (hc : rightB p = true) (ha' : rightB (addP v a) = true) (hb' : rightB (addP v b) = true) (hc' : rightB (addP v p) = true) :
    onB (addP v a) (addP v b) (addP v p) = onB a b p := by
  simp only [onB, turn_move ha hb hc ha' hb' hc', between_move, rightAll, List.all_cons, List.all_nil, ha, hb, hc, ha', hb', hc']
theorem intri_move {v a b c p : Pt} (ha : rightB a = true) (hb : rightB b = true) (hc : rightB c = true) (hp : rightB p = true) (ha' : rightB (addP v a) = true) (hb' : rightB (addP v b) = true) (hc' : rightB (addP v c) = true) (hp' : rightB (addP v p) = true) :
    intriB (addP v a) (addP v b) (addP v c) (addP v p) = intriB a b c p := by
  have e : (addP v p == addP v a) = (p == a) := by
    rw [Bool.eq_iff_iff, beq_iff_eq, beq_iff_eq]
    constructor
    · intro h
      have h1 := congrArg Prod.fst h
      have h2 := congrArg Prod.snd h
      simp only [addP] at h1 h2
      apply Prod.ext <;> omega
    · intro h; rw [h]
  simp only [intriB, turn_move ha hb hc ha' hb' hc', turn_move ha hb hp ha' hb' hp', turn_move hb hc hp hb' hc' hp', turn_move hc ha hp hc' ha' hp', on_move ha hb hp ha' hb' hp', on_move hb hc hp hb' hc' hp', on_move hc ha hp hc' ha' hp', e, rightAll, List.all_cons, List.all_nil, ha, hb, hc, hp, ha', hb', hc', hp']
theorem less_move (v a b : Pt) : lessB (addP v a) (addP v b) = lessB a b := by
  have h1 : ((a.1 + v.1) == (b.1 + v.1)) = (a.1 == b.1) := by rw [Bool.eq_iff_iff, beq_iff_eq, beq_iff_eq]; omega
  have h2 : decide (a.1 + v.1 < b.1 + v.1) = decide (a.1 < b.1) := by rw [Bool.eq_iff_iff, decide_eq_true_eq, decide_eq_true_eq]; omega
  have h3 : decide (a.2 + v.2 < b.2 + v.2) = decide (a.2 < b.2) := by rw [Bool.eq_iff_iff, decide_eq_true_eq, decide_eq_true_eq]; omega
  show (decide (a.1 + v.1 < b.1 + v.1) || ((a.1 + v.1 == b.1 + v.1) && decide (a.2 + v.2 < b.2 + v.2))) = _
  rw [h1, h2, h3]
  rfl

end Go.Proofs.Ytefhfbefgeadaaa
