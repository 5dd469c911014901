import Derived.Test.YtopnbammdeimcaaP03a
namespace Go.Proofs.Ytopnbammdeimcaa.Pl
theorem fo_sum0 {X D : Type} {w : X → Int} {bd : Int → X → Option (Int ⊕ D)} (M W : Int) :
    ∀ (L : List X) (s0 : Int), (∀ x ∈ L, ∀ s, -M ≤ s ∧ s ≤ M → bd s x = some (.inl (s + w x))) → (∀ x ∈ L, -W ≤ w x ∧ w x ≤ W) → 0 ≤ W → -M ≤ s0 - W * L.length → s0 + W * L.length ≤ M →
    fo (yb bd) L (.inl s0) = some (.inl (s0 + sumZ (L.map w)))
  | [], s0, _, _, _, _, _ => by simp [fo, sumZ]
  | x :: r, s0, hb, hw, h0, h1, h2 => by
    have e : W * ((x :: r).length : Int) = W * (r.length : Int) + W := by rw [List.length_cons, Int.natCast_add, Int.mul_add]; simp
    have hp : 0 ≤ W * (r.length : Int) := Int.mul_nonneg h0 (by omega)
    rw [e] at h1 h2
    have hx := hb x (by simp) s0 (by omega)
    have hwx := hw x (by simp)
    rw [fo, yb_go hx, bind_some']
    simp only [if_true]
    rw [fo_sum0 M W r (s0 + w x) (fun y hy => hb y (by simp [hy])) (fun y hy => hw y (by simp [hy])) h0 (by omega) (by omega)]
    have e3 : s0 + sumZ ((x :: r).map w) = s0 + w x + sumZ (r.map w) := by
      simp only [sumZ, List.map_cons, List.foldr_cons]; omega
    rw [e3]
def Ok (l : List Pt) : Prop := ∀ p ∈ l, May p
instance (l : List Pt) : Decidable (Ok l) := by unfold Ok; infer_instance
theorem Ok_eq {l : List Pt} (hn : l.length ≤ 1000000) : exact_Right l = some (decide (Ok l)) := Right_eq l hn
theorem Ok_edg {l : List Pt} (h : Ok l) {e : Pt × Pt} (he : e ∈ edg l) : May e.1 ∧ May e.2 := ⟨h _ (edg_mem he).1, h _ (edg_mem he).2⟩
def aZ (l : List Pt) : Int := sumZ ((edg l).map fun e => crossZ (l.getD 0 (0, 0)) e.1 e.2)
def area (l : List Pt) : Int := if 3 ≤ l.length ∧ Ok l then aZ l else 0
theorem Area_eq {l : List Pt} (hn : l.length ≤ 1000) : ring_Area l = some (area l) := by
  unfold ring_Area
  by_cases h3 : 3 ≤ l.length
  · have hd : decide ((l.length : Int) < 3) = false := by simp only [decide_eq_false_iff_not]; omega
    simp only [hd, Bool.not_false, gd_true, Ok_eq (show l.length ≤ 1000000 by omega), bind_some', Bool.false_or]
    by_cases hk : Ok l
    · rw [decide_eq_true hk]
      simp only [Bool.not_true, Bool.false_eq_true, if_false]
      have h0 : May (l.getD 0 (0, 0)) := hk _ (getD_mem (by omega))
      have hl := edg_len l
      rw [edges_eq _ _ _ _ (by omega), fo_sum0 (w := fun e => crossZ (l.getD 0 (0, 0)) e.1 e.2) 4611686018427387904 2251799813685248 (edg l) 0 (fun e he s hs => by
          unfold ring_Area_b1
          have hm := Ok_edg hk he
          have hb := crossZ_bd h0 hm.1 hm.2
          rw [show ix l 0 = some (l.getD 0 (0, 0)) from ix_getD (i := 0) (0, 0) (by omega), bind_some', Cross_eq h0 hm.1 hm.2, bind_some', ad_in (by omega)])
        (fun e he => crossZ_bd h0 (Ok_edg hk he).1 (Ok_edg hk he).2) (by omega) (by omega) (by omega), rngO_inl]
      unfold ring_Area_b2 area
      rw [if_pos ⟨h3, hk⟩, Int.zero_add]
      rfl
    · rw [decide_eq_false hk]
      simp only [Bool.not_false, if_true, area]
      rw [if_neg (fun h => hk h.2)]
  · have hd : decide ((l.length : Int) < 3) = true := by simp only [decide_eq_true_eq]; omega
    simp only [hd, Bool.not_true, gd_false, bind_some', Bool.true_or, if_true, area]
    rw [if_neg (fun h => h3 h.1)]
def wnd (p : Pt) (e : Pt × Pt) : Int :=
  if (e.1.2 ≤ p.2 ∧ p.2 < e.2.2) ∧ 0 < crossZ e.1 e.2 p then 1 else if (e.2.2 ≤ p.2 ∧ p.2 < e.1.2) ∧ crossZ e.1 e.2 p < 0 then -1 else 0
def OnR (l : List Pt) (p : Pt) : Prop := ∃ e ∈ edg l, On e.1 e.2 p
instance (l : List Pt) (p : Pt) : Decidable (OnR l p) := by unfold OnR; infer_instance
def wZ (l : List Pt) (p : Pt) : Int := sumZ ((edg l).map (wnd p))
def winding (l : List Pt) (p : Pt) : Int × Bool := if May p ∧ Ok l then if OnR l p then (0, false) else (wZ l p, true) else (0, false)
theorem wnd_bd (p : Pt) (e : Pt × Pt) : -1 ≤ wnd p e ∧ wnd p e ≤ 1 := by unfold wnd; split <;> (try split) <;> omega
theorem Winding_eq {l : List Pt} (p : Pt) (hn : l.length ≤ 1000) : ring_Winding l p = some (winding l p) := by
  unfold ring_Winding winding
  rw [Ok_eq (l := [p]) (by simp), bind_some']
  have h1 : decide (Ok [p]) = decide (May p) := by rw [Bool.eq_iff_iff]; simp [Ok]
  rw [h1]
  by_cases hp : May p
  · rw [decide_eq_true hp]
    simp only [Bool.not_true, Bool.not_false, gd_true, Ok_eq (show l.length ≤ 1000000 by omega), bind_some', Bool.false_or]
    by_cases hk : Ok l
    · rw [decide_eq_true hk, if_pos (show May p ∧ Ok l from ⟨hp, hk⟩)]
      simp only [Bool.not_true, Bool.false_eq_true, if_false]
      have hl := edg_len l
      rw [edges_eq _ _ _ _ (by omega), fo_sum (bad := fun e => On e.1 e.2 p) (w := wnd p) (d0 := ()) 1000000 1 (edg l) 0 (fun e he s hs => by
          unfold ring_Winding_b2
          have hm := Ok_edg hk he
          rw [Turn_eq hm.1 hm.2 hp, bind_some', On_eq hm.1 hm.2 hp, bind_some']
          by_cases ho : On e.1 e.2 p
          · rw [decide_eq_true ho, if_pos rfl, if_pos ho]
          · rw [decide_eq_false ho, if_neg Bool.false_ne_true, if_neg ho, bind_some']
            have e1 : (decide (e.1.2 ≤ p.2) && decide (p.2 < e.2.2) && decide (0 < sg (crossZ e.1 e.2 p))) = decide ((e.1.2 ≤ p.2 ∧ p.2 < e.2.2) ∧ 0 < crossZ e.1 e.2 p) := by
              rw [Bool.eq_iff_iff]; simp only [Bool.and_eq_true, decide_eq_true_eq]
              rcases sg_cases (crossZ e.1 e.2 p) with h' | h' | h' <;> omega
            have e2 : (decide (e.2.2 ≤ p.2) && decide (p.2 < e.1.2) && decide (sg (crossZ e.1 e.2 p) < 0)) = decide ((e.2.2 ≤ p.2 ∧ p.2 < e.1.2) ∧ crossZ e.1 e.2 p < 0) := by
              rw [Bool.eq_iff_iff]; simp only [Bool.and_eq_true, decide_eq_true_eq]
              rcases sg_cases (crossZ e.1 e.2 p) with h' | h' | h' <;> omega
            rw [e1, bind_some', e2]
            unfold ring_Winding_k1 wnd
            simp only [decide_eq_true_eq]
            split
            · rw [ad_in (by omega)]
            · split
              · rw [sb_in (by omega)]; rfl
              · rw [Int.add_zero])
        (fun e _ => wnd_bd p e) (by omega) (by omega) (by omega), Int.zero_add]
      by_cases ho : OnR l p
      · rw [if_pos ho, if_pos (show ∃ x, x ∈ edg l ∧ On x.1 x.2 p from ho), rngO_inr]; rfl
      · rw [if_neg ho, if_neg (show ¬ ∃ x, x ∈ edg l ∧ On x.1 x.2 p from ho), rngO_inl]; rfl
    · rw [decide_eq_false hk, if_neg (show ¬ (May p ∧ Ok l) from fun h => hk h.2)]
      simp only [Bool.not_false, if_true]
  · rw [decide_eq_false hp, if_neg (show ¬ (May p ∧ Ok l) from fun h => hp h.1)]
    simp only [Bool.not_false, Bool.not_true, gd_false, bind_some', Bool.true_or, if_true]
end Go.Proofs.Ytopnbammdeimcaa.Pl
