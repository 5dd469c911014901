/-
  Chapter 22, plainly: a row the other way round. No program in sight.
-/
import Derived.Test.YthjcpojcpafbjaaP22e
namespace Go.Proofs.Ythjcpojcpafbjaa.Pl

theorem rows_Meet_eq (x b : Bx) : rows_Meet x b = some (decide (Rt x ∧ Rt b ∧ x.1.1 ≤ b.2.1 ∧ b.1.1 ≤ x.2.1 ∧ x.1.2 ≤ b.2.2 ∧ b.1.2 ≤ x.2.2)) := by
  unfold rows_Meet
  simp only [rows_Right_eq]
  by_cases h1 : Rt x
  · by_cases h2 : Rt b
    · rw [decide_eq_true h1]
      simp only [bind_some', gd_true, decide_eq_true h2]
      by_cases h3 : x.1.1 ≤ b.2.1 <;> by_cases h4 : b.1.1 ≤ x.2.1 <;> by_cases h5 : x.1.2 ≤ b.2.2 <;> by_cases h6 : b.1.2 ≤ x.2.2 <;> simp [h1, h2, h3, h4, h5, h6]
    · rw [decide_eq_true h1]
      simp only [bind_some', gd_true, decide_eq_false h2]
      simp [h2]
  · rw [decide_eq_false h1]
    simp only [bind_some', gd_false]
    simp [h1]
theorem getD_rev {α : Type} {l : List α} {i : Nat} {d : α} (h : i < l.length) : l.reverse.getD (l.length - 1 - i) d = l.getD i d := by
  rw [List.getD_eq_getElem?_getD, List.getElem?_reverse (by omega), List.getD_eq_getElem?_getD]
  congr 2
  omega
theorem rev_take {l : List Pt} {k : Nat} (h : k < l.length) : l.reverse.take (k + 1) = l.reverse.take k ++ [l.getD (l.length - 1 - k) (0, 0)] := by
  rw [snoc_take (0, 0) (show k < l.reverse.length by rw [List.length_reverse]; exact h)]
  congr 2
  have := getD_rev (l := l) (i := l.length - 1 - k) (d := (0, 0)) (by omega)
  rw [show l.length - 1 - (l.length - 1 - k) = k by omega] at this
  exact this
theorem Meets_rev (l : List Pt) (b : Bx) (hn : l.length ≤ 1000000) : ∃ r, lineclip_Meets l b = some r ∧ lineclip_Meets l.reverse b = some r := by
  obtain ⟨r1, e1, h1⟩ := Meets_eq l b hn
  obtain ⟨r2, e2, h2⟩ := Meets_eq l.reverse b (by rw [List.length_reverse]; exact hn)
  refine ⟨r1, e1, ?_⟩
  rw [e2]
  congr 1
  have key : r2 = true ↔ r1 = true := by
    rw [h1, h2, List.length_reverse]
    have hx : ∀ i, 0 < i → i < l.length → l.reverse.getD (i - 1) (0, 0) = l.getD (l.length - i) (0, 0) ∧ l.reverse.getD i (0, 0) = l.getD (l.length - i - 1) (0, 0) := fun i hi hl => by
      have e1 := getD_rev (l := l) (i := l.length - i) (d := (0, 0)) (by omega)
      have e2 := getD_rev (l := l) (i := l.length - i - 1) (d := (0, 0)) (by omega)
      rw [show l.length - 1 - (l.length - i) = i - 1 by omega] at e1
      rw [show l.length - 1 - (l.length - i - 1) = i by omega] at e2
      exact ⟨e1, e2⟩
    constructor
    · rintro ⟨i, hi, hl, h⟩
      obtain ⟨a1, a2⟩ := hx i hi hl
      rw [a1, a2] at h
      exact ⟨l.length - i, by omega, by omega, Edg_swap h⟩
    · rintro ⟨i, hi, hl, h⟩
      obtain ⟨a1, a2⟩ := hx (l.length - i) (by omega) (by omega)
      refine ⟨l.length - i, by omega, by omega, ?_⟩
      rw [a1, a2, show l.length - (l.length - i) = i by omega]
      exact Edg_swap h
  cases r1 <;> cases r2 <;> simp_all
theorem law22_LineclipTurns_true (x0 : List (Int × Int)) (x1 : (Int × Int) × (Int × Int)) (k0 : ∀ y2 ∈ x0, I64 y2.1 ∧ I64 y2.2) (k1 : (I64 x1.1.1 ∧ I64 x1.1.2) ∧ (I64 x1.2.1 ∧ I64 x1.2.2)) : law22_LineclipTurns x0 x1 = some true := by
  unfold law22_LineclipTurns law22_LineclipTurns_l1
  rw [Cut_eq, bind_some']
  have hm40 : (x0.take 40).length ≤ 40 := by rw [List.length_take]; omega
  generalize x0.take 40 = m at hm40
  -- the end
  have hend : law22_LineclipTurns_b1 x1 m m.reverse (-1) = some (.inr true) := by
    unfold law22_LineclipTurns_b1
    have hd : decide ((0 : Int) ≤ -1) = false := by decide
    have hlr : m.reverse.length ≤ 1000000 := by rw [List.length_reverse]; omega
    simp only [hd, Bool.false_eq_true, if_false, Parts_eq m x1 (by omega), Parts_eq m.reverse x1 hlr, bind_some', parts_PP, PP_rev, Count_eq m x1 (by omega), Count_eq m.reverse x1 hlr, cnt_rev]
    obtain ⟨t1, t2⟩ := PP_tot x1 m
    have hall := (PP_all (b := x1) m).1
    generalize PP x1 m = o at t1 t2 hall
    have hl : decide ((o.length : Int) = ((o.map List.reverse).reverse.length : Int)) = true := by simp
    simp only [hl, Bool.not_true, Bool.not_false, gd_true, bind_some', decide_true, Bool.false_or, Bool.false_eq_true, if_false]
    have hl2 : (o.map List.reverse).reverse.length = o.length := by simp
    have hloop : law22_LineclipTurns_l2 x1 m m.reverse o (o.map List.reverse).reverse 0 = some true := by
      unfold law22_LineclipTurns_l2
      have := loopO_nat (body := fun s => law22_LineclipTurns_b2 x1 m m.reverse o (o.map List.reverse).reverse s) (fun k => (k : Int)) o.length true (fun k hk => by
        unfold law22_LineclipTurns_b2
        have es : sb (((o.map List.reverse).reverse.length : Nat) : Int) 1 = ((o.length - 1 : Nat) : Int) := by rw [hl2]; exact sb_one (by omega) (by omega)
        have es2 : sb ((o.length - 1 : Nat) : Int) (k : Int) = ((o.length - 1 - k : Nat) : Int) := by rw [sb_in (by omega)]; omega
        have hy : (o.map List.reverse).reverse.getD (o.length - 1 - k) [] = (o.getD k []).reverse := by
          have := getD_rev (l := o.map List.reverse) (i := k) (d := []) (by simpa using hk)
          rw [List.length_map] at this
          rw [this, List.getD_eq_getElem?_getD, List.getElem?_map, List.getD_eq_getElem?_getD, List.getElem?_eq_getElem hk]
          rfl
        simp only [dlt hk, if_true, ix_getD [] hk, bind_some', es, es2, ix_getD [] (show o.length - 1 - k < (o.map List.reverse).reverse.length by rw [hl2]; omega), hy]
        obtain ⟨p2, pa⟩ := hall _ (getD_mem (d := []) hk)
        have hpt := tot_mem (getD_mem (d := []) hk)
        generalize o.getD k [] = p at p2 pa hpt
        have ep : sb (p.length : Int) 1 = ((p.length - 1 : Nat) : Int) := sb_one (by omega) (by omega)
        have hc1 : decide ((p.length : Int) = (p.reverse.length : Int)) = true := by simp
        have hc2 : decide ((p.length : Int) < 2) = false := by simp only [decide_eq_false_iff_not]; omega
        simp only [hc1, hc2, Bool.not_true, Bool.or_self, Bool.not_false, gd_true, Count_eq p x1 (by omega), PP_of_all p p2 pa, bind_some', ep]
        have hc3 : decide ((cnt [p] : Int) = ((p.length - 1 : Nat) : Int)) = true := by simp [cnt]
        simp only [hc3, Bool.not_true, Bool.or_self, Bool.false_eq_true, if_false]
        unfold law22_LineclipTurns_l3
        have ek : ad (k : Int) 1 = ((k + 1 : Nat) : Int) := ad_one (by omega)
        have := loopO_nat (body := fun s => law22_LineclipTurns_b3 x1 (k : Int) p p.reverse s) (fun j => (j : Int)) p.length (.inl ((k + 1 : Nat) : Int)) (fun j hj => by
          unfold law22_LineclipTurns_b3
          have e1 : sb ((p.reverse.length : Nat) : Int) 1 = ((p.length - 1 : Nat) : Int) := by rw [List.length_reverse]; exact ep
          have e2 : sb ((p.length - 1 : Nat) : Int) (j : Int) = ((p.length - 1 - j : Nat) : Int) := by rw [sb_in (by omega)]; omega
          have ej : ad (j : Int) 1 = ((j + 1 : Nat) : Int) := ad_one (by omega)
          obtain ⟨q1, q2, q3⟩ := All_mem p p2 pa _ (getD_mem (d := (0, 0)) hj)
          have hmt : Rt x1 ∧ Rt (p.getD j (0, 0), p.getD j (0, 0)) ∧ x1.1.1 ≤ (p.getD j (0, 0)).1 ∧ (p.getD j (0, 0)).1 ≤ x1.2.1 ∧ x1.1.2 ≤ (p.getD j (0, 0)).2 ∧ (p.getD j (0, 0)).2 ≤ x1.2.2 := ⟨q2, ⟨q1, q1, Int.le_refl _, Int.le_refl _⟩, q3.1, q3.2.1, q3.2.2.1, q3.2.2.2⟩
          simp only [dlt hj, if_true, ix_getD (0, 0) hj, bind_some', e1, e2, ix_getD (0, 0) (show p.length - 1 - j < p.reverse.length by rw [List.length_reverse]; omega), getD_rev hj, decide_true, Bool.not_true, Bool.not_false, gd_true, rows_Meet_eq, decide_eq_true hmt, Bool.or_self, Bool.false_eq_true, if_false, ej]) (by
          unfold law22_LineclipTurns_b3
          simp only [dnlt (Nat.lt_irrefl _), ek]; rfl)
        exact this) (by
        unfold law22_LineclipTurns_b2
        obtain ⟨r, e1, e2⟩ := Meets_rev m x1 (by omega)
        simp only [dnlt (Nat.lt_irrefl _), known22, gd_true, e1, e2, bind_some', beq_self_eq_true, Bool.and_self]; rfl)
      exact this
    rw [hloop]; rfl
  have h0 : ∀ k : Nat, k ≤ m.length → sb (m.length : Int) 1 = (m.length : Int) - 1 := fun _ _ => sb_in (by omega)
  rw [h0 0 (Nat.zero_le _)]
  have := loopO_nat (body := fun s => law22_LineclipTurns_b1 x1 m s.1 s.2) (fun k => (m.reverse.take k, (m.length : Int) - 1 - k)) m.length true (fun k hk => by
    unfold law22_LineclipTurns_b1
    have hd : decide ((0 : Int) ≤ (m.length : Int) - 1 - (k : Int)) = true := by simp only [decide_eq_true_eq]; omega
    have e : (m.length : Int) - 1 - (k : Int) = ((m.length - 1 - k : Nat) : Int) := by omega
    have e2 : sb ((m.length - 1 - k : Nat) : Int) 1 = (m.length : Int) - 1 - ((k + 1 : Nat) : Int) := by rw [sb_in (by omega)]; omega
    simp only [hd, if_true]
    rw [e, ix_getD (0, 0) (show m.length - 1 - k < m.length by omega), bind_some', app_le (by rw [List.length_take, List.length_singleton]; omega), bind_some', e2, ← rev_take hk]) (by
    have e : (m.length : Int) - 1 - (m.length : Int) = -1 := by omega
    simp only [e]
    rw [List.take_of_length_le (by rw [List.length_reverse]; exact Nat.le_refl _)]
    exact hend)
  have e0 : (m.length : Int) - 1 - ((0 : Nat) : Int) = (m.length : Int) - 1 := by omega
  simp only [e0, List.take_zero] at this
  exact this
end Go.Proofs.Ythjcpojcpafbjaa.Pl
