import Derived.Test.YthkmkmkcnljmaaaOfs
namespace Go.Proofs.Ythkmkmkcnljmaaa.Pl
theorem Cut_eq (l : List Pt) : law03_Cut l = some (l.take 40) := by
  unfold law03_Cut
  have e : mn (l.length : Int) 40 = ((min l.length 40 : Nat) : Int) := by rw [mn_eq]; omega
  rw [e, cut_to (by omega)]
  by_cases h : l.length ≤ 40
  · rw [show min l.length 40 = l.length by omega, List.take_of_length_le (Nat.le_refl _), List.take_of_length_le h]; rfl
  · rw [show min l.length 40 = 40 by omega]; rfl
def May (p : Pt) : Prop := -16777216 ≤ p.1 ∧ p.1 ≤ 16777216 ∧ -16777216 ≤ p.2 ∧ p.2 ≤ 16777216
instance (p : Pt) : Decidable (May p) := by unfold May; infer_instance
theorem within_eq (n a b : Int) : exact_within n a b = some (decide (a ≤ n ∧ n ≤ b)) := by
  unfold exact_within
  rw [bind_some']
  by_cases h1 : a ≤ n <;> by_cases h2 : n ≤ b <;> simp [h1, h2]
theorem Right_eq (l : List Pt) (hn : l.length ≤ 1000000) : exact_Right l = some (decide (∀ p ∈ l, May p)) := by
  unfold exact_Right exact_Right_l1
  have hb : ∀ k, k < l.length → exact_Right_b1 l (k : Int) = some (if May (l.getD k (0, 0)) then .inl ((k + 1 : Nat) : Int) else .inr false) := fun k hk => by
    unfold exact_Right_b1
    simp only [dlt hk, if_true, ix_getD (0, 0) hk, bind_some', within_eq, ad_one (show k < 1000000000 by omega)]
    by_cases h1 : -16777216 ≤ (l.getD k (0, 0)).1 ∧ (l.getD k (0, 0)).1 ≤ 16777216
    · rw [decide_eq_true h1]
      simp only [Bool.not_true, Bool.not_false, gd_true, bind_some', Bool.false_or]
      by_cases h2 : -16777216 ≤ (l.getD k (0, 0)).2 ∧ (l.getD k (0, 0)).2 ≤ 16777216
      · rw [decide_eq_true h2, if_pos (show May _ from ⟨h1.1, h1.2, h2⟩)]; rfl
      · rw [decide_eq_false h2, if_neg (show ¬ May (l.getD k (0, 0)) from fun h => h2 h.2.2)]; rfl
    · rw [decide_eq_false h1, if_neg (show ¬ May (l.getD k (0, 0)) from fun h => h1 ⟨h.1, h.2.1⟩)]; rfl
  have := loopO_all (body := fun s => exact_Right_b1 l s) (fun k => (k : Int)) l.length (fun k => May (l.getD k (0, 0))) true false (fun k hk hok => by
    simp only [hb k hk, if_pos hok]) (fun k hk hok => by
    simp only [hb k hk, if_neg hok]) (by
    unfold exact_Right_b1
    simp only [dnlt (Nat.lt_irrefl _)]; rfl)
  refine (show loopO _ _ = _ from this).trans ?_
  congr 1
  by_cases h : ∀ p ∈ l, May p
  · rw [if_pos (fun k hk => h _ (getD_mem hk)), decide_eq_true h]
  · rw [if_neg (fun hh => h fun p hp => ?_), decide_eq_false h]
    obtain ⟨i, hi, rfl⟩ := mem_getD (d := ((0, 0) : Pt)) hp
    exact hh i hi
theorem abs_mul {a b A B : Int} (h1 : -A ≤ a ∧ a ≤ A) (h2 : -B ≤ b ∧ b ≤ B) : -(A * B) ≤ a * b ∧ a * b ≤ A * B := by
  have h3 : 0 ≤ (A - a) * (B + b) := Int.mul_nonneg (by omega) (by omega)
  have h4 : 0 ≤ (A + a) * (B - b) := Int.mul_nonneg (by omega) (by omega)
  have h5 : 0 ≤ (A - a) * (B - b) := Int.mul_nonneg (by omega) (by omega)
  have h6 : 0 ≤ (A + a) * (B + b) := Int.mul_nonneg (by omega) (by omega)
  constructor <;> grind
theorem ml_25 {a b : Int} (h1 : -33554432 ≤ a ∧ a ≤ 33554432) (h2 : -33554432 ≤ b ∧ b ≤ 33554432) : ml a b = a * b ∧ -1125899906842624 ≤ a * b ∧ a * b ≤ 1125899906842624 := by
  have := abs_mul h1 h2
  exact ⟨ml_in (by omega), by omega⟩
theorem ml_28 {a b : Int} (h1 : -268435456 ≤ a ∧ a ≤ 268435456) (h2 : -268435456 ≤ b ∧ b ≤ 268435456) : ml a b = a * b ∧ -72057594037927936 ≤ a * b ∧ a * b ≤ 72057594037927936 := by
  have := abs_mul h1 h2
  exact ⟨ml_in (by omega), by omega⟩
def crossZ (a b c : Pt) : Int := (b.1 - a.1) * (c.2 - a.2) - (b.2 - a.2) * (c.1 - a.1)
def sg (n : Int) : Int := if 0 < n then 1 else if n < 0 then -1 else 0
theorem crossZ_bd {a b c : Pt} (ha : May a) (hb : May b) (hc : May c) : -2251799813685248 ≤ crossZ a b c ∧ crossZ a b c ≤ 2251799813685248 := by
  unfold May at ha hb hc
  have h1 := (ml_25 (a := b.1 - a.1) (b := c.2 - a.2) (by omega) (by omega)).2
  have h2 := (ml_25 (a := b.2 - a.2) (b := c.1 - a.1) (by omega) (by omega)).2
  unfold crossZ
  omega
theorem Right_true {l : List Pt} (hn : l.length ≤ 1000000) (h : ∀ p ∈ l, May p) : exact_Right l = some true := by
  rw [Right_eq l hn, decide_eq_true h]
theorem Cross_eq {a b c : Pt} (ha : May a) (hb : May b) (hc : May c) : exact_Cross a b c = some (crossZ a b c) := by
  unfold exact_Cross
  rw [Right_true (by simp) (by simp [ha, hb, hc])]
  have hbd := crossZ_bd ha hb hc
  unfold crossZ at hbd
  unfold May at ha hb hc
  simp only [bind_some', Bool.not_true, Bool.false_eq_true, if_false]
  rw [sb_in (x := b.1) (by omega), sb_in (x := c.2) (by omega), sb_in (x := b.2) (by omega), sb_in (x := c.1) (by omega)]
  have h1 := ml_25 (a := b.1 - a.1) (b := c.2 - a.2) (by omega) (by omega)
  have h2 := ml_25 (a := b.2 - a.2) (b := c.1 - a.1) (by omega) (by omega)
  rw [h1.1, h2.1, sb_in (by omega)]
  rfl
theorem Turn_eq {a b c : Pt} (ha : May a) (hb : May b) (hc : May c) : exact_Turn a b c = some (sg (crossZ a b c)) := by
  unfold exact_Turn sg
  rw [Cross_eq ha hb hc]
  simp only [bind_some', decide_eq_true_eq]
  split <;> (try split) <;> rfl
theorem sg_cases (n : Int) : (0 < n ∧ sg n = 1) ∨ (n = 0 ∧ sg n = 0) ∨ (n < 0 ∧ sg n = -1) := by
  unfold sg; split <;> (try split) <;> omega
theorem Less_eq (a b : Pt) : exact_Less a b = some (decide (a.1 < b.1 ∨ (a.1 = b.1 ∧ a.2 < b.2))) := by
  unfold exact_Less
  simp only [bind_some']
  congr 1
  rw [Bool.eq_iff_iff]
  simp
def On (a b p : Pt) : Prop := crossZ a b p = 0 ∧ (min a.1 b.1 ≤ p.1 ∧ p.1 ≤ max a.1 b.1) ∧ min a.2 b.2 ≤ p.2 ∧ p.2 ≤ max a.2 b.2
instance (a b p : Pt) : Decidable (On a b p) := by unfold On; infer_instance
theorem On_eq {a b p : Pt} (ha : May a) (hb : May b) (hp : May p) : exact_On a b p = some (decide (On a b p)) := by
  have hd : decide (On a b p) = (decide (crossZ a b p = 0) && (decide (min a.1 b.1 ≤ p.1 ∧ p.1 ≤ max a.1 b.1) && decide (min a.2 b.2 ≤ p.2 ∧ p.2 ≤ max a.2 b.2))) := by
    rw [Bool.eq_iff_iff]; simp only [Bool.and_eq_true, decide_eq_true_eq]; exact Iff.rfl
  rw [hd]
  unfold exact_On exact_between
  rw [Right_true (by simp) (by simp [ha, hb, hp])]
  simp only [bind_some', gd_true, Turn_eq ha hb hp, within_eq, mn_eq, mx_eq, Bool.true_and]
  have hs : decide (sg (crossZ a b p) = 0) = decide (crossZ a b p = 0) := by
    rw [Bool.eq_iff_iff]; simp only [decide_eq_true_eq]
    rcases sg_cases (crossZ a b p) with h' | h' | h' <;> omega
  rw [hs]
  cases decide (crossZ a b p = 0) <;> cases decide (min a.1 b.1 ≤ p.1 ∧ p.1 ≤ max a.1 b.1) <;> simp
def edg (l : List Pt) : List (Pt × Pt) := l.zip (l.drop 1 ++ l.take 1)
theorem edg_len (l : List Pt) : (edg l).length = l.length := by
  unfold edg; simp; omega
theorem edg_at {l : List Pt} {k : Nat} (h : k < l.length) : (edg l).getD k ((0, 0), (0, 0)) = (l.getD k (0, 0), l.getD ((k + 1) % l.length) (0, 0)) := by
  have hk : k < (edg l).length := by rw [edg_len]; exact h
  rw [List.getD_eq_getElem?_getD, List.getElem?_eq_getElem hk]
  simp only [edg, Option.getD_some, List.getElem_zip]
  congr 1
  · rw [List.getD_eq_getElem?_getD, List.getElem?_eq_getElem h]; rfl
  · by_cases h1 : k + 1 = l.length
    · rw [h1, Nat.mod_self, List.getElem_append_right (by simp; omega), List.getD_eq_getElem?_getD, List.getElem?_eq_getElem (by omega)]
      simp only [Option.getD_some, List.getElem_take, List.length_drop]
      congr 1; omega
    · rw [Nat.mod_eq_of_lt (by omega), List.getElem_append_left (by simp; omega), List.getD_eq_getElem?_getD, List.getElem?_eq_getElem (by omega)]
      simp only [Option.getD_some, List.getElem_drop]
      congr 1; omega
theorem edg_mem {l : List Pt} {e : Pt × Pt} (h : e ∈ edg l) : e.1 ∈ l ∧ e.2 ∈ l := by
  unfold edg at h
  have h1 := List.of_mem_zip h
  refine ⟨h1.1, ?_⟩
  rcases List.mem_append.1 h1.2 with h2 | h2
  · exact List.mem_of_mem_drop h2
  · exact List.mem_of_mem_take h2
theorem rm_nat {a b : Nat} (hb : 0 < b) : rmK (a : Int) (b : Int) = some ((a % b : Nat) : Int) := by
  unfold rmK
  rw [if_neg (by omega)]
  congr 1
section
variable {X Sx D : Type}
def fo (yy : Sx → X → Option (Bool × Sx)) : List X → Sx → Option Sx
  | [], s => some s
  | x :: r, s => (yy s x).bind fun z => if z.1 then fo yy r z.2 else some z.2
theorem edges_eq (Sx : Type) (yy : Sx → (Pt × Pt) → Option (Bool × Sx)) (s0 : Sx) (l : List Pt) (hn : l.length ≤ 1000000) : ring_edges_1 Sx yy s0 l = fo yy (edg l) s0 := by
  unfold ring_edges_1 ring_edges_1_l1
  have H : ∀ (m k : Nat) (s : Sx), k + m = l.length → loopO (fun s => ring_edges_1_b1 Sx yy l s.1 s.2) ((k : Int), s) = fo yy ((edg l).drop k) s := by
    intro m
    induction m with
    | zero =>
      intro k s hk
      rw [loopO_inr (r := s), List.drop_eq_nil_of_le (by rw [edg_len]; omega)]
      · rfl
      · unfold ring_edges_1_b1
        simp only [dnlt (show ¬ k < l.length by omega)]; rfl
    | succ m ih =>
      intro k s hk
      have hb : ring_edges_1_b1 Sx yy l (k : Int) s = (yy s (l.getD k (0, 0), l.getD ((k + 1) % l.length) (0, 0))).bind fun z => if z.1 then some (.inl (((k + 1 : Nat) : Int), z.2)) else some (.inr z.2) := by
        unfold ring_edges_1_b1
        simp only [dlt (show k < l.length by omega), if_true, ix_getD (0, 0) (show k < l.length by omega), bind_some', ad_one (show k < 1000000000 by omega), rm_nat (show 0 < l.length by omega), ix_getD (0, 0) (Nat.mod_lt (k + 1) (show 0 < l.length by omega))]
        congr 1
        funext z
        cases z.1 <;> rfl
      rw [drop_cons ((0, 0), (0, 0)) (show k < (edg l).length by rw [edg_len]; omega), edg_at (by omega), fo]
      cases hy : yy s (l.getD k (0, 0), l.getD ((k + 1) % l.length) (0, 0)) with
      | none =>
        rw [loopO_eq]
        simp only [hb, hy]; rfl
      | some z =>
        simp only [bind_some']
        cases hz : z.1 with
        | true =>
          rw [loopO_inl (s' := (((k + 1 : Nat) : Int), z.2)) (by simp only [hb, hy, bind_some', hz, if_true])]
          simp only [if_true]
          exact ih (k + 1) z.2 (by omega)
        | false =>
          rw [loopO_inr (r := z.2) (by simp only [hb, hy, bind_some', hz]; rfl)]
          rfl
  have := H l.length 0 s0 (by omega)
  rwa [List.drop_zero] at this
def sumZ (l : List Int) : Int := l.foldr (· + ·) 0
theorem sumZ_perm {a b : List Int} (h : a.Perm b) : sumZ a = sumZ b := by
  induction h with
  | nil => rfl
  | cons x _ ih => simp only [sumZ, List.foldr_cons] at ih ⊢; omega
  | swap x y l => simp only [sumZ, List.foldr_cons]; omega
  | trans _ _ h1 h2 => exact h1.trans h2
theorem fo_sum {bad : X → Prop} [DecidablePred bad] {w : X → Int} {d0 : D} {bd : Int → X → Option (Int ⊕ D)} (M W : Int) :
    ∀ (L : List X) (s0 : Int), (∀ x ∈ L, ∀ s, -M ≤ s ∧ s ≤ M → bd s x = some (if bad x then .inr d0 else .inl (s + w x))) → (∀ x ∈ L, -W ≤ w x ∧ w x ≤ W) → 0 ≤ W → -M ≤ s0 - W * L.length → s0 + W * L.length ≤ M →
    fo (yb bd) L (.inl s0) = some (if ∃ x ∈ L, bad x then .inr d0 else .inl (s0 + sumZ (L.map w)))
  | [], s0, _, _, _, _, _ => by simp [fo, sumZ]
  | x :: r, s0, hb, hw, h0, h1, h2 => by
    have e : W * ((x :: r).length : Int) = W * (r.length : Int) + W := by rw [List.length_cons, Int.natCast_add, Int.mul_add]; simp
    have hp : 0 ≤ W * (r.length : Int) := Int.mul_nonneg h0 (by omega)
    rw [e] at h1 h2
    have hx := hb x (by simp) s0 (by omega)
    have hwx := hw x (by simp)
    rw [fo]
    by_cases hbad : bad x
    · rw [if_pos hbad] at hx
      rw [yb_out hx, if_pos ⟨x, by simp, hbad⟩]
      rfl
    · rw [if_neg hbad] at hx
      rw [yb_go hx, bind_some']
      simp only [if_true]
      rw [fo_sum M W r (s0 + w x) (fun y hy => hb y (by simp [hy])) (fun y hy => hw y (by simp [hy])) h0 (by omega) (by omega)]
      have e2 : (∃ y ∈ x :: r, bad y) ↔ ∃ y ∈ r, bad y := by
        simp only [List.mem_cons, exists_eq_or_imp, hbad, false_or]
      have e3 : s0 + sumZ ((x :: r).map w) = s0 + w x + sumZ (r.map w) := by
        simp only [sumZ, List.map_cons, List.foldr_cons]; omega
      by_cases h : ∃ y ∈ r, bad y
      · rw [if_pos h, if_pos (e2.2 h)]
      · rw [if_neg h, if_neg (fun h' => h (e2.1 h')), e3]
end
theorem fo_sum0 {X D : Type} {w : X → Int} {bd : Int → X → Option (Int ⊕ D)} (M W : Int) :
    ∀ (L : List X) (s0 : Int), (∀ x ∈ L, ∀ s, -M ≤ s ∧ s ≤ M → bd s x = some (.inl (s + w x))) → (∀ x ∈ L, -W ≤ w x ∧ w x ≤ W) → 0 ≤ W → -M ≤ s0 - W * L.length → s0 + W * L.length ≤ M →
    fo (yb bd) L (.inl s0) = some (.inl (s0 + sumZ (L.map w)))
  | [], s0, _, _, _, _, _ => by simp [fo, sumZ]
  | x :: r, s0, hb, hw, h0, h1, h2 => by
    have e : W * ((x :: r).length : Int) = W * (r.length : Int) + W := by rw [List.length_cons, Int.natCast_add, Int.mul_add]; simp
    have hp : 0 ≤ W * (r.length : Int) := Int.mul_nonneg h0 (by omega)
    rw [e] at h1 h2
    have hx := hb x (by simp) s0 (by omega)
    have hwx := hw x (by simp)
    rw [fo, yb_go hx, bind_some']
    simp only [if_true]
    rw [fo_sum0 M W r (s0 + w x) (fun y hy => hb y (by simp [hy])) (fun y hy => hw y (by simp [hy])) h0 (by omega) (by omega)]
    have e3 : s0 + sumZ ((x :: r).map w) = s0 + w x + sumZ (r.map w) := by
      simp only [sumZ, List.map_cons, List.foldr_cons]; omega
    rw [e3]
def Ok (l : List Pt) : Prop := ∀ p ∈ l, May p
instance (l : List Pt) : Decidable (Ok l) := by unfold Ok; infer_instance
theorem Ok_eq {l : List Pt} (hn : l.length ≤ 1000000) : exact_Right l = some (decide (Ok l)) := Right_eq l hn
theorem Ok_edg {l : List Pt} (h : Ok l) {e : Pt × Pt} (he : e ∈ edg l) : May e.1 ∧ May e.2 := ⟨h _ (edg_mem he).1, h _ (edg_mem he).2⟩
def aZ (l : List Pt) : Int := sumZ ((edg l).map fun e => crossZ (l.getD 0 (0, 0)) e.1 e.2)
def area (l : List Pt) : Int := if 3 ≤ l.length ∧ Ok l then aZ l else 0
theorem Area_eq {l : List Pt} (hn : l.length ≤ 1000) : ring_Area l = some (area l) := by
  unfold ring_Area
  by_cases h3 : 3 ≤ l.length
  · have hd : decide ((l.length : Int) < 3) = false := by simp only [decide_eq_false_iff_not]; omega
    simp only [hd, Bool.not_false, gd_true, Ok_eq (show l.length ≤ 1000000 by omega), bind_some', Bool.false_or]
    by_cases hk : Ok l
    · rw [decide_eq_true hk]
      simp only [Bool.not_true, Bool.false_eq_true, if_false]
      have h0 : May (l.getD 0 (0, 0)) := hk _ (getD_mem (by omega))
      have hl := edg_len l
      rw [edges_eq _ _ _ _ (by omega), fo_sum0 (w := fun e => crossZ (l.getD 0 (0, 0)) e.1 e.2) 4611686018427387904 2251799813685248 (edg l) 0 (fun e he s hs => by
          unfold ring_Area_b1
          have hm := Ok_edg hk he
          have hb := crossZ_bd h0 hm.1 hm.2
          rw [show ix l 0 = some (l.getD 0 (0, 0)) from ix_getD (i := 0) (0, 0) (by omega), bind_some', Cross_eq h0 hm.1 hm.2, bind_some', ad_in (by omega)])
        (fun e he => crossZ_bd h0 (Ok_edg hk he).1 (Ok_edg hk he).2) (by omega) (by omega) (by omega), rngO_inl]
      unfold ring_Area_b2 area
      rw [if_pos ⟨h3, hk⟩, Int.zero_add]
      rfl
    · rw [decide_eq_false hk]
      simp only [Bool.not_false, if_true, area]
      rw [if_neg (fun h => hk h.2)]
  · have hd : decide ((l.length : Int) < 3) = true := by simp only [decide_eq_true_eq]; omega
    simp only [hd, Bool.not_true, gd_false, bind_some', Bool.true_or, if_true, area]
    rw [if_neg (fun h => h3 h.1)]
def wnd (p : Pt) (e : Pt × Pt) : Int :=
  if (e.1.2 ≤ p.2 ∧ p.2 < e.2.2) ∧ 0 < crossZ e.1 e.2 p then 1 else if (e.2.2 ≤ p.2 ∧ p.2 < e.1.2) ∧ crossZ e.1 e.2 p < 0 then -1 else 0
def OnR (l : List Pt) (p : Pt) : Prop := ∃ e ∈ edg l, On e.1 e.2 p
instance (l : List Pt) (p : Pt) : Decidable (OnR l p) := by unfold OnR; infer_instance
def wZ (l : List Pt) (p : Pt) : Int := sumZ ((edg l).map (wnd p))
def winding (l : List Pt) (p : Pt) : Int × Bool := if May p ∧ Ok l then if OnR l p then (0, false) else (wZ l p, true) else (0, false)
theorem wnd_bd (p : Pt) (e : Pt × Pt) : -1 ≤ wnd p e ∧ wnd p e ≤ 1 := by unfold wnd; split <;> (try split) <;> omega
theorem Winding_eq {l : List Pt} (p : Pt) (hn : l.length ≤ 1000) : ring_Winding l p = some (winding l p) := by
  unfold ring_Winding winding
  rw [Ok_eq (l := [p]) (by simp), bind_some']
  have h1 : decide (Ok [p]) = decide (May p) := by rw [Bool.eq_iff_iff]; simp [Ok]
  rw [h1]
  by_cases hp : May p
  · rw [decide_eq_true hp]
    simp only [Bool.not_true, Bool.not_false, gd_true, Ok_eq (show l.length ≤ 1000000 by omega), bind_some', Bool.false_or]
    by_cases hk : Ok l
    · rw [decide_eq_true hk, if_pos (show May p ∧ Ok l from ⟨hp, hk⟩)]
      simp only [Bool.not_true, Bool.false_eq_true, if_false]
      have hl := edg_len l
      rw [edges_eq _ _ _ _ (by omega), fo_sum (bad := fun e => On e.1 e.2 p) (w := wnd p) (d0 := ()) 1000000 1 (edg l) 0 (fun e he s hs => by
          unfold ring_Winding_b2
          have hm := Ok_edg hk he
          rw [Turn_eq hm.1 hm.2 hp, bind_some', On_eq hm.1 hm.2 hp, bind_some']
          by_cases ho : On e.1 e.2 p
          · rw [decide_eq_true ho, if_pos rfl, if_pos ho]
          · rw [decide_eq_false ho, if_neg Bool.false_ne_true, if_neg ho, bind_some']
            have e1 : (decide (e.1.2 ≤ p.2) && decide (p.2 < e.2.2) && decide (0 < sg (crossZ e.1 e.2 p))) = decide ((e.1.2 ≤ p.2 ∧ p.2 < e.2.2) ∧ 0 < crossZ e.1 e.2 p) := by
              rw [Bool.eq_iff_iff]; simp only [Bool.and_eq_true, decide_eq_true_eq]
              rcases sg_cases (crossZ e.1 e.2 p) with h' | h' | h' <;> omega
            have e2 : (decide (e.2.2 ≤ p.2) && decide (p.2 < e.1.2) && decide (sg (crossZ e.1 e.2 p) < 0)) = decide ((e.2.2 ≤ p.2 ∧ p.2 < e.1.2) ∧ crossZ e.1 e.2 p < 0) := by
              rw [Bool.eq_iff_iff]; simp only [Bool.and_eq_true, decide_eq_true_eq]
              rcases sg_cases (crossZ e.1 e.2 p) with h' | h' | h' <;> omega
            rw [e1, bind_some', e2]
            unfold ring_Winding_k1 wnd
            simp only [decide_eq_true_eq]
            split
            · rw [ad_in (by omega)]
            · split
              · rw [sb_in (by omega)]; rfl
              · rw [Int.add_zero])
        (fun e _ => wnd_bd p e) (by omega) (by omega) (by omega), Int.zero_add]
      by_cases ho : OnR l p
      · rw [if_pos ho, if_pos (show ∃ x, x ∈ edg l ∧ On x.1 x.2 p from ho), rngO_inr]; rfl
      · rw [if_neg ho, if_neg (show ¬ ∃ x, x ∈ edg l ∧ On x.1 x.2 p from ho), rngO_inl]; rfl
    · rw [decide_eq_false hk, if_neg (show ¬ (May p ∧ Ok l) from fun h => hk h.2)]
      simp only [Bool.not_false, if_true]
  · rw [decide_eq_false hp, if_neg (show ¬ (May p ∧ Ok l) from fun h => hp h.1)]
    simp only [Bool.not_false, Bool.not_true, gd_false, bind_some', Bool.true_or, if_true]
def mid (a b : Pt) : Pt := (a.1 + b.1, a.2 + b.2)
def way (a b : Pt) : Pt := (b.1 - a.1, b.2 - a.2)
def sdZ (m : Pt) (e : Pt × Pt) : Int := (e.2.1 - e.1.1) * (m.2 - 2 * e.1.2) - (e.2.2 - e.1.2) * (m.1 - 2 * e.1.1)
def Has (m w : Pt) (e : Pt × Pt) : Prop := (¬ (e.2.1 - e.1.1) * w.2 = (e.2.2 - e.1.2) * w.1) ∧ sdZ m e = 0 ∧ (2 * min e.1.1 e.2.1 ≤ m.1 ∧ m.1 ≤ 2 * max e.1.1 e.2.1) ∧ 2 * min e.1.2 e.2.2 ≤ m.2 ∧ m.2 ≤ 2 * max e.1.2 e.2.2
instance (m w : Pt) (e : Pt × Pt) : Decidable (Has m w e) := by unfold Has; infer_instance
def Ovr (m w : Pt) (y : Int) : Prop := m.2 < 2 * y ∨ (w.1 < 0 ∧ m.2 = 2 * y)
instance (m w : Pt) (y : Int) : Decidable (Ovr m w y) := by unfold Ovr; infer_instance
def side (m w : Pt) (e : Pt × Pt) : Int := if sdZ m e = 0 then (e.2.1 - e.1.1) * w.1 + (e.2.2 - e.1.2) * w.2 else sdZ m e
def bsd (m w : Pt) (e : Pt × Pt) : Int :=
  if (¬ Ovr m w e.1.2 ∧ Ovr m w e.2.2) ∧ 0 < side m w e then 1 else if (Ovr m w e.1.2 ∧ ¬ Ovr m w e.2.2) ∧ side m w e < 0 then -1 else 0
theorem bsd_bd (m w : Pt) (e : Pt × Pt) : -1 ≤ bsd m w e ∧ bsd m w e ≤ 1 := by unfold bsd; split <;> (try split) <;> omega
section
variable {a b : Pt} {e : Pt × Pt} (ha : May a) (hb : May b) (h1 : May e.1) (h2 : May e.2)
include ha hb h1 h2
theorem parts_eq : ml (sb e.2.1 e.1.1) (sb (mid a b).2 (ml 2 e.1.2)) = (e.2.1 - e.1.1) * ((mid a b).2 - 2 * e.1.2) ∧ ml (sb e.2.2 e.1.2) (sb (mid a b).1 (ml 2 e.1.1)) = (e.2.2 - e.1.2) * ((mid a b).1 - 2 * e.1.1) ∧
    (-72057594037927936 ≤ (e.2.1 - e.1.1) * ((mid a b).2 - 2 * e.1.2) ∧ (e.2.1 - e.1.1) * ((mid a b).2 - 2 * e.1.2) ≤ 72057594037927936) ∧ (-72057594037927936 ≤ (e.2.2 - e.1.2) * ((mid a b).1 - 2 * e.1.1) ∧ (e.2.2 - e.1.2) * ((mid a b).1 - 2 * e.1.1) ≤ 72057594037927936) := by
  unfold May at ha hb h1 h2
  unfold mid
  simp only
  rw [sb_in (x := e.2.1) (by omega), sb_in (x := e.2.2) (by omega), ml_in (y := e.1.2) (by omega), ml_in (y := e.1.1) (by omega), sb_in (x := a.2 + b.2) (by omega), sb_in (x := a.1 + b.1) (by omega)]
  have q1 := ml_28 (a := e.2.1 - e.1.1) (b := a.2 + b.2 - 2 * e.1.2) (by omega) (by omega)
  have q2 := ml_28 (a := e.2.2 - e.1.2) (b := a.1 + b.1 - 2 * e.1.1) (by omega) (by omega)
  exact ⟨q1.1, q2.1, q1.2, q2.2⟩
theorem ways_eq : (ml (sb e.2.1 e.1.1) (way a b).2 = (e.2.1 - e.1.1) * (way a b).2 ∧ ml (sb e.2.2 e.1.2) (way a b).1 = (e.2.2 - e.1.2) * (way a b).1) ∧ ad (ml (sb e.2.1 e.1.1) (way a b).1) (ml (sb e.2.2 e.1.2) (way a b).2) = (e.2.1 - e.1.1) * (way a b).1 + (e.2.2 - e.1.2) * (way a b).2 := by
  unfold May at ha hb h1 h2
  unfold way
  simp only
  rw [sb_in (x := e.2.1) (by omega), sb_in (x := e.2.2) (by omega)]
  have q1 := ml_25 (a := e.2.1 - e.1.1) (b := b.2 - a.2) (by omega) (by omega)
  have q2 := ml_25 (a := e.2.2 - e.1.2) (b := b.1 - a.1) (by omega) (by omega)
  have q3 := ml_25 (a := e.2.1 - e.1.1) (b := b.1 - a.1) (by omega) (by omega)
  have q4 := ml_25 (a := e.2.2 - e.1.2) (b := b.2 - a.2) (by omega) (by omega)
  refine ⟨⟨q1.1, q2.1⟩, ?_⟩
  rw [q3.1, q4.1, ad_in (by omega)]
theorem has_eq : ring_beside_has (mid a b, way a b) e.1 e.2 = some (decide (Has (mid a b) (way a b) e)) := by
  have hd : decide (Has (mid a b) (way a b) e) = (!(decide ((e.2.1 - e.1.1) * (way a b).2 = (e.2.2 - e.1.2) * (way a b).1) || !decide ((e.2.1 - e.1.1) * ((mid a b).2 - 2 * e.1.2) = (e.2.2 - e.1.2) * ((mid a b).1 - 2 * e.1.1))) && (decide (2 * min e.1.1 e.2.1 ≤ (mid a b).1 ∧ (mid a b).1 ≤ 2 * max e.1.1 e.2.1) && decide (2 * min e.1.2 e.2.2 ≤ (mid a b).2 ∧ (mid a b).2 ≤ 2 * max e.1.2 e.2.2))) := by
    rw [Bool.eq_iff_iff]
    simp only [Bool.and_eq_true, decide_eq_true_eq, Bool.not_eq_true', Bool.or_eq_false_iff, decide_eq_false_iff_not, Bool.not_eq_false']
    unfold Has sdZ
    constructor
    · rintro ⟨q1, q2, q3, q4⟩; exact ⟨⟨q1, by omega⟩, q3, q4⟩
    · rintro ⟨⟨q1, q2⟩, q3, q4⟩; exact ⟨q1, by omega, q3, q4⟩
  rw [hd]
  have h9 : ∀ n c d : Int, May (c, d) → ring_beside_has_1 n c d = some (decide (2 * min c d ≤ n ∧ n ≤ 2 * max c d)) := by
    intro n c d hm
    unfold May at hm
    unfold ring_beside_has_1
    rw [mn_eq, mx_eq, ml_in (by simp only at hm; omega), ml_in (by simp only at hm; omega), bind_some']
    congr 1
    rw [Bool.eq_iff_iff]; simp only [Bool.and_eq_true, decide_eq_true_eq]
  unfold ring_beside_has
  simp only [bind_some']
  rw [(parts_eq ha hb h1 h2).1, (parts_eq ha hb h1 h2).2.1, (ways_eq ha hb h1 h2).1.1, (ways_eq ha hb h1 h2).1.2, h9 _ e.1.1 e.2.1 (by unfold May at h1 h2 ⊢; simp only; omega), h9 _ e.1.2 e.2.2 (by unfold May at h1 h2 ⊢; simp only; omega)]
  cases decide ((e.2.1 - e.1.1) * (way a b).2 = (e.2.2 - e.1.2) * (way a b).1) || !decide ((e.2.1 - e.1.1) * ((mid a b).2 - 2 * e.1.2) = (e.2.2 - e.1.2) * ((mid a b).1 - 2 * e.1.1))
  · simp only [Bool.false_eq_true, if_false, bind_some', Bool.not_false, Bool.true_and]
    cases decide (2 * min e.1.1 e.2.1 ≤ (mid a b).1 ∧ (mid a b).1 ≤ 2 * max e.1.1 e.2.1) <;> simp
  · simp
theorem side_eq : ring_beside_side (mid a b, way a b) e.1 e.2 = some (side (mid a b) (way a b) e) := by
  unfold ring_beside_side ring_beside_side_k1
  simp only [bind_some']
  have hp := parts_eq ha hb h1 h2
  rw [hp.1, hp.2.1, (ways_eq ha hb h1 h2).2, sb_in (by omega)]
  unfold side sdZ
  simp only [decide_eq_true_eq]
  split <;> rfl
end
theorem over_eq {a b : Pt} {y : Int} (ha : May a) (hb : May b) (hy : -16777216 ≤ y ∧ y ≤ 16777216) : ring_beside_over (mid a b, way a b) y = some (decide (Ovr (mid a b) (way a b) y)) := by
  unfold ring_beside_over
  rw [ml_in (by omega)]
  simp only [decide_eq_true_eq]
  split <;> (congr 1; rw [Bool.eq_iff_iff]; simp only [decide_eq_true_eq]; unfold Ovr; omega)
def HasR (l : List Pt) (a b : Pt) : Prop := ∃ e ∈ edg l, Has (mid a b) (way a b) e
instance (l : List Pt) (a b : Pt) : Decidable (HasR l a b) := by unfold HasR; infer_instance
def bZ (l : List Pt) (a b : Pt) : Int := sumZ ((edg l).map (bsd (mid a b) (way a b)))
def beside (l : List Pt) (a b : Pt) : Int × Bool := if ¬ a = b ∧ May a ∧ May b ∧ Ok l then if HasR l a b then (0, false) else (bZ l a b, true) else (0, false)
theorem Beside_eq {l : List Pt} (a b : Pt) (hn : l.length ≤ 1000) : ring_Beside l a b = some (beside l a b) := by
  unfold ring_Beside beside
  rw [Ok_eq (l := [a, b]) (by simp), Ok_eq (l := l) (by omega)]
  have h1 : decide (Ok [a, b]) = (decide (May a ∧ May b)) := by rw [Bool.eq_iff_iff]; simp [Ok]
  rw [h1]
  by_cases hab : a = b
  · rw [decide_eq_true hab, if_neg (show ¬ (¬ a = b ∧ May a ∧ May b ∧ Ok l) from fun h => h.1 hab)]
    simp
  rw [decide_eq_false hab]
  by_cases hm : May a ∧ May b
  case neg =>
    rw [decide_eq_false hm, if_neg (show ¬ (¬ a = b ∧ May a ∧ May b ∧ Ok l) from fun h => hm ⟨h.2.1, h.2.2.1⟩)]
    simp
  rw [decide_eq_true hm]
  by_cases hk : Ok l
  case neg =>
    rw [decide_eq_false hk, if_neg (show ¬ (¬ a = b ∧ May a ∧ May b ∧ Ok l) from fun h => hk h.2.2.2)]
    simp
  rw [decide_eq_true hk, if_pos (show ¬ a = b ∧ May a ∧ May b ∧ Ok l from ⟨hab, hm.1, hm.2, hk⟩)]
  simp only [Bool.not_false, Bool.not_true, gd_true, bind_some', Bool.or_false, Bool.false_eq_true, if_false]
  have hl := edg_len l
  have e0 : ((ad a.1 b.1, ad a.2 b.2), (sb b.1 a.1, sb b.2 a.2)) = (mid a b, way a b) := by
    have ha := hm.1
    have hb := hm.2
    unfold May at ha hb
    rw [ad_in (by omega), ad_in (by omega), sb_in (by omega), sb_in (by omega)]; rfl
  rw [edges_eq _ _ _ _ (by omega), fo_sum (bad := Has (mid a b) (way a b)) (w := bsd (mid a b) (way a b)) (d0 := ()) 1000000 1 (edg l) 0 (fun e he s hs => by
      have h := Ok_edg hk he
      unfold ring_Beside_b2
      rw [e0, has_eq hm.1 hm.2 h.1 h.2, bind_some']
      by_cases ho : Has (mid a b) (way a b) e
      · rw [decide_eq_true ho, if_pos rfl, if_pos ho]
      · rw [decide_eq_false ho, if_neg Bool.false_ne_true, if_neg ho, over_eq hm.1 hm.2 h.1.2.2, over_eq hm.1 hm.2 h.2.2.2, side_eq hm.1 hm.2 h.1 h.2]
        unfold ring_Beside_k1 bsd
        by_cases q1 : Ovr (mid a b) (way a b) e.1.2 <;> by_cases q2 : Ovr (mid a b) (way a b) e.2.2 <;> simp only [q1, q2, decide_true, decide_false, Bool.not_true, Bool.not_false, gd_true, gd_false, bind_some', Bool.and_true, Bool.and_false, Bool.true_and, Bool.false_and, Bool.false_eq_true, if_false, not_true, not_false_iff, true_and, and_true, false_and, and_false, Int.add_zero, decide_eq_true_eq]
        · by_cases q3 : side (mid a b) (way a b) e < 0
          · rw [if_pos q3, if_pos q3, sb_in (by omega)]; rfl
          · rw [if_neg q3, if_neg q3, Int.add_zero]
        · by_cases q3 : 0 < side (mid a b) (way a b) e
          · rw [if_pos q3, if_pos q3, ad_in (by omega)]
          · rw [if_neg q3, if_neg q3, Int.add_zero])
    (fun e _ => bsd_bd _ _ e) (by omega) (by omega) (by omega), Int.zero_add]
  by_cases ho : HasR l a b
  · rw [if_pos ho, if_pos (show ∃ x, x ∈ edg l ∧ Has (mid a b) (way a b) x from ho), rngO_inr]; rfl
  · rw [if_neg ho, if_neg (show ¬ ∃ x, x ∈ edg l ∧ Has (mid a b) (way a b) x from ho), rngO_inl]; rfl
theorem sq_nonneg (u : Int) : 0 ≤ u * u := by
  rcases Int.le_total 0 u with h | h
  · exact Int.mul_nonneg h h
  · have := Int.mul_nonneg (show 0 ≤ -u by omega) (show 0 ≤ -u by omega)
    rwa [Int.neg_mul_neg] at this
theorem sq_pos {u : Int} (h : u ≠ 0) : 0 < u * u := by
  rcases Int.lt_or_gt_of_ne h with h | h
  · have := Int.mul_pos (show 0 < -u by omega) (show 0 < -u by omega)
    rwa [Int.neg_mul_neg] at this
  · exact Int.mul_pos h h
theorem long_pos {u1 u2 : Int} (h : u1 ≠ 0 ∨ u2 ≠ 0) : 0 < u1 * u1 + u2 * u2 := by
  have h1 := sq_nonneg u1
  have h2 := sq_nonneg u2
  rcases h with h | h
  · have := sq_pos h; omega
  · have := sq_pos h; omega
def btw (u v : Int) : Prop := (0 ≤ v ∧ v ≤ u) ∨ (u ≤ v ∧ v ≤ 0)
theorem between_mul {d L u : Int} (h0 : 0 ≤ d) (hL : d ≤ L) : (0 ≤ u → 0 ≤ d * u ∧ d * u ≤ L * u) ∧ (u ≤ 0 → L * u ≤ d * u ∧ d * u ≤ 0) := by
  constructor
  · intro hu
    exact ⟨Int.mul_nonneg h0 hu, Int.mul_le_mul_of_nonneg_right hL hu⟩
  · intro hu
    have h1 := Int.mul_nonneg h0 (show 0 ≤ -u by omega)
    have h2 := Int.mul_le_mul_of_nonneg_right hL (show 0 ≤ -u by omega)
    rw [Int.mul_neg] at h1 h2
    rw [Int.mul_neg] at h2
    omega
theorem On_btw (a b p : Pt) : On a b p ↔ crossZ a b p = 0 ∧ btw (b.1 - a.1) (p.1 - a.1) ∧ btw (b.2 - a.2) (p.2 - a.2) := by
  unfold On btw
  omega
theorem pt_ext {a b : Pt} (h1 : a.1 = b.1) (h2 : a.2 = b.2) : a = b := Prod.ext h1 h2
theorem crossZ_left (a b : Pt) : crossZ a b a = 0 := by unfold crossZ; grind
theorem crossZ_right (a b : Pt) : crossZ a b b = 0 := by unfold crossZ; grind
theorem crossZ_swap (a b c : Pt) : crossZ b a c = - crossZ a b c := by unfold crossZ; grind
theorem crossZ_turn (a b c : Pt) : crossZ b c a = crossZ a b c := by unfold crossZ; grind
theorem On_left (a b : Pt) : On a b a := by rw [On_btw]; refine ⟨crossZ_left a b, ?_, ?_⟩ <;> unfold btw <;> omega
theorem On_right (a b : Pt) : On a b b := by rw [On_btw]; refine ⟨crossZ_right a b, ?_, ?_⟩ <;> unfold btw <;> omega
theorem On_swap (a b p : Pt) : On b a p ↔ On a b p := by
  unfold On
  rw [crossZ_swap]
  omega
def ind (P : Prop) [Decidable P] : Int := if P then 1 else 0
theorem ind_cases (P : Prop) [Decidable P] : (P ∧ ind P = 1) ∨ (¬ P ∧ ind P = 0) := by
  unfold ind; by_cases h : P <;> simp [h]
def nOn (a b c d : Pt) : Int := ind (On c d a) + ind (On c d b) + (ind (On a b c) + ind (On a b d))
def nBo (a b c d : Pt) : Int := ind (a = c ∨ a = d) + ind (b = c ∨ b = d)
def cls (a b c d : Pt) : Int :=
  if (a = c ∧ b = d) ∨ (a = d ∧ b = c) then 5 else if 1 < nOn a b c d - nBo a b c d then 4 else if nOn a b c d - nBo a b c d = 1 then (if nBo a b c d = 1 then 1 else 2)
  else if ¬ sg (crossZ a b c) = sg (crossZ a b d) ∧ ¬ sg (crossZ c d a) = sg (crossZ c d b) then 3 else 0
theorem cls_sym {a b c d : Pt} (hab : a ≠ b) (hcd : c ≠ d) : cls c d a b = cls a b c d := by
  unfold cls
  have e1 : nOn c d a b = nOn a b c d := by unfold nOn; omega
  have e2 : nBo c d a b = nBo a b c d := by
    unfold nBo
    have h1 := ind_cases (a = c ∨ a = d)
    have h2 := ind_cases (b = c ∨ b = d)
    have h3 := ind_cases (c = a ∨ c = b)
    have h4 := ind_cases (d = a ∨ d = b)
    grind
  rw [e1, e2]
  have e3 : ((c = a ∧ d = b) ∨ (c = b ∧ d = a)) ↔ ((a = c ∧ b = d) ∨ (a = d ∧ b = c)) := by grind
  have e4 : (¬ sg (crossZ c d a) = sg (crossZ c d b) ∧ ¬ sg (crossZ a b c) = sg (crossZ a b d)) ↔ (¬ sg (crossZ a b c) = sg (crossZ a b d) ∧ ¬ sg (crossZ c d a) = sg (crossZ c d b)) := And.comm
  simp only [e3, e4]
end Go.Proofs.Ythkmkmkcnljmaaa.Pl
