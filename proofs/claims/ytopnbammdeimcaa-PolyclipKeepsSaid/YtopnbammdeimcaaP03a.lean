import Derived.Test.YtopnbammdeimcaaP03
namespace Go.Proofs.Ytopnbammdeimcaa.Pl
theorem abs_mul {a b A B : Int} (h1 : -A ≤ a ∧ a ≤ A) (h2 : -B ≤ b ∧ b ≤ B) : -(A * B) ≤ a * b ∧ a * b ≤ A * B := by
  have h3 : 0 ≤ (A - a) * (B + b) := Int.mul_nonneg (by omega) (by omega)
  have h4 : 0 ≤ (A + a) * (B - b) := Int.mul_nonneg (by omega) (by omega)
  have h5 : 0 ≤ (A - a) * (B - b) := Int.mul_nonneg (by omega) (by omega)
  have h6 : 0 ≤ (A + a) * (B + b) := Int.mul_nonneg (by omega) (by omega)
  constructor <;> grind
theorem ml_25 {a b : Int} (h1 : -33554432 ≤ a ∧ a ≤ 33554432) (h2 : -33554432 ≤ b ∧ b ≤ 33554432) : ml a b = a * b ∧ -1125899906842624 ≤ a * b ∧ a * b ≤ 1125899906842624 := by
  have := abs_mul h1 h2
  exact ⟨ml_in (by omega), by omega⟩
def crossZ (a b c : Pt) : Int := (b.1 - a.1) * (c.2 - a.2) - (b.2 - a.2) * (c.1 - a.1)
def sg (n : Int) : Int := if 0 < n then 1 else if n < 0 then -1 else 0
theorem crossZ_bd {a b c : Pt} (ha : May a) (hb : May b) (hc : May c) : -2251799813685248 ≤ crossZ a b c ∧ crossZ a b c ≤ 2251799813685248 := by
  unfold May at ha hb hc
  have h1 := (ml_25 (a := b.1 - a.1) (b := c.2 - a.2) (by omega) (by omega)).2
  have h2 := (ml_25 (a := b.2 - a.2) (b := c.1 - a.1) (by omega) (by omega)).2
  unfold crossZ
  omega
theorem Right_true {l : List Pt} (hn : l.length ≤ 1000000) (h : ∀ p ∈ l, May p) : exact_Right l = some true := by
  rw [Right_eq l hn, decide_eq_true h]
theorem Cross_eq {a b c : Pt} (ha : May a) (hb : May b) (hc : May c) : exact_Cross a b c = some (crossZ a b c) := by
  unfold exact_Cross
  rw [Right_true (by simp) (by simp [ha, hb, hc])]
  have hbd := crossZ_bd ha hb hc
  unfold crossZ at hbd
  unfold May at ha hb hc
  simp only [bind_some', Bool.not_true, Bool.false_eq_true, if_false]
  rw [sb_in (x := b.1) (by omega), sb_in (x := c.2) (by omega), sb_in (x := b.2) (by omega), sb_in (x := c.1) (by omega)]
  have h1 := ml_25 (a := b.1 - a.1) (b := c.2 - a.2) (by omega) (by omega)
  have h2 := ml_25 (a := b.2 - a.2) (b := c.1 - a.1) (by omega) (by omega)
  rw [h1.1, h2.1, sb_in (by omega)]
  rfl
theorem Turn_eq {a b c : Pt} (ha : May a) (hb : May b) (hc : May c) : exact_Turn a b c = some (sg (crossZ a b c)) := by
  unfold exact_Turn sg
  rw [Cross_eq ha hb hc]
  simp only [bind_some', decide_eq_true_eq]
  split <;> (try split) <;> rfl
theorem sg_cases (n : Int) : (0 < n ∧ sg n = 1) ∨ (n = 0 ∧ sg n = 0) ∨ (n < 0 ∧ sg n = -1) := by
  unfold sg; split <;> (try split) <;> omega
theorem Less_eq (a b : Pt) : exact_Less a b = some (decide (a.1 < b.1 ∨ (a.1 = b.1 ∧ a.2 < b.2))) := by
  unfold exact_Less
  simp only [bind_some']
  congr 1
  rw [Bool.eq_iff_iff]
  simp
def On (a b p : Pt) : Prop := crossZ a b p = 0 ∧ (min a.1 b.1 ≤ p.1 ∧ p.1 ≤ max a.1 b.1) ∧ min a.2 b.2 ≤ p.2 ∧ p.2 ≤ max a.2 b.2
instance (a b p : Pt) : Decidable (On a b p) := by unfold On; infer_instance
theorem On_eq {a b p : Pt} (ha : May a) (hb : May b) (hp : May p) : exact_On a b p = some (decide (On a b p)) := by
  have hd : decide (On a b p) = (decide (crossZ a b p = 0) && (decide (min a.1 b.1 ≤ p.1 ∧ p.1 ≤ max a.1 b.1) && decide (min a.2 b.2 ≤ p.2 ∧ p.2 ≤ max a.2 b.2))) := by
    rw [Bool.eq_iff_iff]; simp only [Bool.and_eq_true, decide_eq_true_eq]; exact Iff.rfl
  rw [hd]
  unfold exact_On exact_between
  rw [Right_true (by simp) (by simp [ha, hb, hp])]
  simp only [bind_some', gd_true, Turn_eq ha hb hp, within_eq, mn_eq, mx_eq, Bool.true_and]
  have hs : decide (sg (crossZ a b p) = 0) = decide (crossZ a b p = 0) := by
    rw [Bool.eq_iff_iff]; simp only [decide_eq_true_eq]
    rcases sg_cases (crossZ a b p) with h' | h' | h' <;> omega
  rw [hs]
  cases decide (crossZ a b p = 0) <;> cases decide (min a.1 b.1 ≤ p.1 ∧ p.1 ≤ max a.1 b.1) <;> simp
def edg (l : List Pt) : List (Pt × Pt) := l.zip (l.drop 1 ++ l.take 1)
theorem edg_len (l : List Pt) : (edg l).length = l.length := by
  unfold edg; simp; omega
theorem edg_at {l : List Pt} {k : Nat} (h : k < l.length) : (edg l).getD k ((0, 0), (0, 0)) = (l.getD k (0, 0), l.getD ((k + 1) % l.length) (0, 0)) := by
  have hk : k < (edg l).length := by rw [edg_len]; exact h
  rw [List.getD_eq_getElem?_getD, List.getElem?_eq_getElem hk]
  simp only [edg, Option.getD_some, List.getElem_zip]
  congr 1
  · rw [List.getD_eq_getElem?_getD, List.getElem?_eq_getElem h]; rfl
  · by_cases h1 : k + 1 = l.length
    · rw [h1, Nat.mod_self, List.getElem_append_right (by simp; omega), List.getD_eq_getElem?_getD, List.getElem?_eq_getElem (by omega)]
      simp only [Option.getD_some, List.getElem_take, List.length_drop]
      congr 1; omega
    · rw [Nat.mod_eq_of_lt (by omega), List.getElem_append_left (by simp; omega), List.getD_eq_getElem?_getD, List.getElem?_eq_getElem (by omega)]
      simp only [Option.getD_some, List.getElem_drop]
      congr 1; omega
theorem edg_mem {l : List Pt} {e : Pt × Pt} (h : e ∈ edg l) : e.1 ∈ l ∧ e.2 ∈ l := by
  unfold edg at h
  have h1 := List.of_mem_zip h
  refine ⟨h1.1, ?_⟩
  rcases List.mem_append.1 h1.2 with h2 | h2
  · exact List.mem_of_mem_drop h2
  · exact List.mem_of_mem_take h2
theorem rm_nat {a b : Nat} (hb : 0 < b) : rmK (a : Int) (b : Int) = some ((a % b : Nat) : Int) := by
  unfold rmK
  rw [if_neg (by omega)]
  congr 1
section
variable {X Sx D : Type}
def fo (yy : Sx → X → Option (Bool × Sx)) : List X → Sx → Option Sx
  | [], s => some s
  | x :: r, s => (yy s x).bind fun z => if z.1 then fo yy r z.2 else some z.2
theorem edges_eq (Sx : Type) (yy : Sx → (Pt × Pt) → Option (Bool × Sx)) (s0 : Sx) (l : List Pt) (hn : l.length ≤ 1000000) : ring_edges_1 Sx yy s0 l = fo yy (edg l) s0 := by
  unfold ring_edges_1 ring_edges_1_l1
  have H : ∀ (m k : Nat) (s : Sx), k + m = l.length → loopO (fun s => ring_edges_1_b1 Sx yy l s.1 s.2) ((k : Int), s) = fo yy ((edg l).drop k) s := by
    intro m
    induction m with
    | zero =>
      intro k s hk
      rw [loopO_inr (r := s), List.drop_eq_nil_of_le (by rw [edg_len]; omega)]
      · rfl
      · unfold ring_edges_1_b1
        simp only [dnlt (show ¬ k < l.length by omega)]; rfl
    | succ m ih =>
      intro k s hk
      have hb : ring_edges_1_b1 Sx yy l (k : Int) s = (yy s (l.getD k (0, 0), l.getD ((k + 1) % l.length) (0, 0))).bind fun z => if z.1 then some (.inl (((k + 1 : Nat) : Int), z.2)) else some (.inr z.2) := by
        unfold ring_edges_1_b1
        simp only [dlt (show k < l.length by omega), if_true, ix_getD (0, 0) (show k < l.length by omega), bind_some', ad_one (show k < 1000000000 by omega), rm_nat (show 0 < l.length by omega), ix_getD (0, 0) (Nat.mod_lt (k + 1) (show 0 < l.length by omega))]
        congr 1
        funext z
        cases z.1 <;> rfl
      rw [drop_cons ((0, 0), (0, 0)) (show k < (edg l).length by rw [edg_len]; omega), edg_at (by omega), fo]
      cases hy : yy s (l.getD k (0, 0), l.getD ((k + 1) % l.length) (0, 0)) with
      | none =>
        rw [loopO_eq]
        simp only [hb, hy]; rfl
      | some z =>
        simp only [bind_some']
        cases hz : z.1 with
        | true =>
          rw [loopO_inl (s' := (((k + 1 : Nat) : Int), z.2)) (by simp only [hb, hy, bind_some', hz, if_true])]
          simp only [if_true]
          exact ih (k + 1) z.2 (by omega)
        | false =>
          rw [loopO_inr (r := z.2) (by simp only [hb, hy, bind_some', hz]; rfl)]
          rfl
  have := H l.length 0 s0 (by omega)
  rwa [List.drop_zero] at this
def sumZ (l : List Int) : Int := l.foldr (· + ·) 0
theorem sumZ_perm {a b : List Int} (h : a.Perm b) : sumZ a = sumZ b := by
  induction h with
  | nil => rfl
  | cons x _ ih => simp only [sumZ, List.foldr_cons] at ih ⊢; omega
  | swap x y l => simp only [sumZ, List.foldr_cons]; omega
  | trans _ _ h1 h2 => exact h1.trans h2
theorem fo_sum {bad : X → Prop} [DecidablePred bad] {w : X → Int} {d0 : D} {bd : Int → X → Option (Int ⊕ D)} (M W : Int) :
    ∀ (L : List X) (s0 : Int), (∀ x ∈ L, ∀ s, -M ≤ s ∧ s ≤ M → bd s x = some (if bad x then .inr d0 else .inl (s + w x))) → (∀ x ∈ L, -W ≤ w x ∧ w x ≤ W) → 0 ≤ W → -M ≤ s0 - W * L.length → s0 + W * L.length ≤ M →
    fo (yb bd) L (.inl s0) = some (if ∃ x ∈ L, bad x then .inr d0 else .inl (s0 + sumZ (L.map w)))
  | [], s0, _, _, _, _, _ => by simp [fo, sumZ]
  | x :: r, s0, hb, hw, h0, h1, h2 => by
    have e : W * ((x :: r).length : Int) = W * (r.length : Int) + W := by rw [List.length_cons, Int.natCast_add, Int.mul_add]; simp
    have hp : 0 ≤ W * (r.length : Int) := Int.mul_nonneg h0 (by omega)
    rw [e] at h1 h2
    have hx := hb x (by simp) s0 (by omega)
    have hwx := hw x (by simp)
    rw [fo]
    by_cases hbad : bad x
    · rw [if_pos hbad] at hx
      rw [yb_out hx, if_pos ⟨x, by simp, hbad⟩]
      rfl
    · rw [if_neg hbad] at hx
      rw [yb_go hx, bind_some']
      simp only [if_true]
      rw [fo_sum M W r (s0 + w x) (fun y hy => hb y (by simp [hy])) (fun y hy => hw y (by simp [hy])) h0 (by omega) (by omega)]
      have e2 : (∃ y ∈ x :: r, bad y) ↔ ∃ y ∈ r, bad y := by
        simp only [List.mem_cons, exists_eq_or_imp, hbad, false_or]
      have e3 : s0 + sumZ ((x :: r).map w) = s0 + w x + sumZ (r.map w) := by
        simp only [sumZ, List.map_cons, List.foldr_cons]; omega
      by_cases h : ∃ y ∈ r, bad y
      · rw [if_pos h, if_pos (e2.2 h)]
      · rw [if_neg h, if_neg (fun h' => h (e2.1 h')), e3]
end
end Go.Proofs.Ytopnbammdeimcaa.Pl
