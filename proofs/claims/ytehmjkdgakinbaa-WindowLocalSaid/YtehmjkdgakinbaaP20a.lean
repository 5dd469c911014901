/-
  Chapter 20, plainly: tiles, their windows, the tiles of a level, those that show a box. No program in sight.
-/
import Derived.Test.YtehmjkdgakinbaaP03
namespace Go.Proofs.Ytehmjkdgakinbaa.Pl

/-! ### powers -/
/-- How many tiles a level has in each direction. -/
def Pw (z : Int) : Nat := if 0 ≤ z ∧ z ≤ 4 then 2 ^ z.toNat else 0
theorem lev {z : Int} (h : 0 ≤ z ∧ z ≤ 4) : z = 0 ∨ z = 1 ∨ z = 2 ∨ z = 3 ∨ z = 4 := by omega
theorem Pw_le (z : Int) : Pw z ≤ 16 := by
  unfold Pw
  split
  · rename_i h
    rcases lev h with rfl | rfl | rfl | rfl | rfl <;> decide
  · omega
theorem level_eq (z : Int) : snap_level z = some (decide (0 ≤ z ∧ z ≤ 4)) := by
  unfold snap_level
  by_cases h1 : 0 ≤ z <;> by_cases h2 : z ≤ 4 <;> simp [h1, h2]
theorem Level_eq (z : Int) : ref16_Level z = some (decide (0 ≤ z ∧ z ≤ 4)) := by
  unfold ref16_Level
  by_cases h1 : 0 ≤ z <;> by_cases h2 : z ≤ 4 <;> simp [h1, h2]
theorem Side_eq (z : Int) : snap_Side z = some (((4096 * Pw z : Nat) : Int), decide (0 ≤ z ∧ z ≤ 4)) := by
  unfold snap_Side
  rw [level_eq, bind_some']
  by_cases h : 0 ≤ z ∧ z ≤ 4
  · rw [decide_eq_true h]
    rcases lev h with rfl | rfl | rfl | rfl | rfl <;> decide
  · rw [decide_eq_false h, show Pw z = 0 from if_neg h]; rfl
theorem count_eq (z : Int) : window_count z = some (Pw z : Int) := by
  unfold window_count
  rw [Side_eq, bind_some']
  by_cases h : 0 ≤ z ∧ z ≤ 4
  · rcases lev h with rfl | rfl | rfl | rfl | rfl <;> decide
  · rw [show Pw z = 0 from if_neg h]; rfl
theorem Power_eq {z : Int} (h : 0 ≤ z ∧ z ≤ 4) : ref01_Power z = some (Pw z : Int) := by
  unfold ref01_Power ref01_Power_l1
  have := loopO_nat (body := fun s => ref01_Power_b1 z s.1 s.2) (fun k => (((2 ^ k : Nat) : Int), (k : Int))) z.toNat ((2 ^ z.toNat : Nat) : Int) (fun k hk => by
    unfold ref01_Power_b1
    have h1 : decide ((k : Int) < z) = true := by simp only [decide_eq_true_eq]; omega
    have hk4 : 2 ^ k ≤ 2 ^ 4 := Nat.pow_le_pow_right (by decide) (by omega)
    have hm : ∀ p : Nat, p ≤ 16 → ml 2 (p : Int) = ((p * 2 : Nat) : Int) := fun p hp => by rw [ml_in (by omega)]; omega
    simp only [h1, if_true, ad_one (show k < 1000000000 by omega)]
    rw [hm _ hk4, Nat.pow_succ]) (by
    unfold ref01_Power_b1
    have h1 : decide ((z.toNat : Int) < z) = false := by simp only [decide_eq_false_iff_not]; omega
    simp only [h1]; rfl)
  rw [show Pw z = 2 ^ z.toNat from if_pos h]
  exact this

/-! ### tiles -/
abbrev Tl := Int × Int × Int
def Rt (t : Tl) : Prop := 0 ≤ t.2.1 ∧ t.2.1 < Pw t.1 ∧ 0 ≤ t.2.2 ∧ t.2.2 < Pw t.1
instance (t : Tl) : Decidable (Rt t) := by unfold Rt; infer_instance
theorem Rt.lv {t : Tl} (h : Rt t) : 0 ≤ t.1 ∧ t.1 ≤ 4 := by
  refine Classical.byContradiction fun hn => ?_
  have : Pw t.1 = 0 := if_neg hn
  have := h.2.1
  have := h.1
  omega
theorem Rt.le {t : Tl} (h : Rt t) : 0 ≤ t.2.1 ∧ t.2.1 < 16 ∧ 0 ≤ t.2.2 ∧ t.2.2 < 16 := by
  have := Pw_le t.1
  obtain ⟨h1, h2, h3, h4⟩ := h
  omega
theorem Right20_eq (t : Tl) : window_Right t = some (decide (Rt t)) := by
  unfold window_Right Rt
  rw [count_eq]
  by_cases h1 : 0 ≤ t.2.1 <;> by_cases h2 : t.2.1 < Pw t.1 <;> by_cases h3 : 0 ≤ t.2.2 <;> by_cases h4 : t.2.2 < Pw t.1 <;> simp [h1, h2, h3, h4]
theorem refRight20_eq (t : Tl) : ref20_Right t = some (decide (Rt t)) := by
  unfold ref20_Right
  rw [Level_eq, bind_some']
  by_cases hl : 0 ≤ t.1 ∧ t.1 ≤ 4
  · rw [Power_eq hl, decide_eq_true hl]
    unfold Rt
    by_cases h1 : 0 ≤ t.2.1 <;> by_cases h2 : t.2.1 < Pw t.1 <;> by_cases h3 : 0 ≤ t.2.2 <;> by_cases h4 : t.2.2 < Pw t.1 <;> simp [h1, h2, h3, h4]
  · rw [decide_eq_false hl, decide_eq_false (fun h : Rt t => hl h.lv)]
    simp
theorem buffered_eq (n : Int) : window_buffered n = some (decide (0 ≤ n ∧ n ≤ 2047)) := by
  unfold window_buffered
  by_cases h1 : 0 ≤ n <;> by_cases h2 : n ≤ 2047 <;> simp [h1, h2]
abbrev Bx := Pt × Pt
/-- A tile's window. -/
def Win (t : Tl) (b : Int) : Bx × Bool :=
  if Rt t ∧ 0 ≤ b ∧ b ≤ 2047 then (((4096 * t.2.1 - b, 4096 * t.2.2 - b), (4096 * t.2.1 + 4096 + b, 4096 * t.2.2 + 4096 + b)), true) else (((0, 0), (0, 0)), false)
theorem Win_pos {t : Tl} {b : Int} (h : Rt t) (hb : 0 ≤ b ∧ b ≤ 2047) : Win t b = (((4096 * t.2.1 - b, 4096 * t.2.2 - b), (4096 * t.2.1 + 4096 + b, 4096 * t.2.2 + 4096 + b)), true) := if_pos ⟨h, hb⟩
theorem Window_eq (t : Tl) (b : Int) : window_Window t b = some (Win t b) := by
  unfold window_Window
  rw [Right20_eq, bind_some']
  by_cases h : Rt t
  · rw [decide_eq_true h]
    simp only [Bool.not_true, Bool.not_false, gd_true, buffered_eq, bind_some', Bool.false_or]
    by_cases hb : 0 ≤ b ∧ b ≤ 2047
    · rw [decide_eq_true hb, Win_pos h hb]
      simp only [Bool.not_true, Bool.false_eq_true, if_false]
      have := h.le
      have e1 : ml 4096 t.2.1 = 4096 * t.2.1 := ml_in (by omega)
      have e2 : ml 4096 t.2.2 = 4096 * t.2.2 := ml_in (by omega)
      have e3 : ml 2 b = 2 * b := ml_in (by omega)
      rw [e1, e2, e3, sb_in (by omega), sb_in (by omega), ad_in (x := 4096) (by omega), ad_in (by omega), ad_in (by omega)]
      congr 2
      refine Prod.ext rfl (Prod.ext ?_ ?_)
      · show 4096 * t.2.1 - b + (4096 + 2 * b) = 4096 * t.2.1 + 4096 + b
        omega
      · show 4096 * t.2.2 - b + (4096 + 2 * b) = 4096 * t.2.2 + 4096 + b
        omega
    · rw [decide_eq_false hb, show Win t b = _ from if_neg fun hh => hb hh.2]; rfl
  · rw [decide_eq_false h, show Win t b = _ from if_neg fun hh => h hh.1]; rfl
theorem refWindow_eq (t : Tl) (b : Int) : ref20_Window t b = some (Win t b) := by
  unfold ref20_Window
  rw [refRight20_eq, bind_some', bind_some']
  by_cases h : Rt t
  · rw [decide_eq_true h]
    by_cases hb : 0 ≤ b ∧ b ≤ 2047
    · have h1 : decide (b < 0) = false := by simp only [decide_eq_false_iff_not]; omega
      have h2 : decide (2047 < b) = false := by simp only [decide_eq_false_iff_not]; omega
      rw [h1, h2, Win_pos h hb]
      simp only [Bool.not_true, Bool.or_false, Bool.false_eq_true, if_false]
      have := h.le
      have e1 : ml 4096 t.2.1 = 4096 * t.2.1 := ml_in (by omega)
      have e2 : ml 4096 t.2.2 = 4096 * t.2.2 := ml_in (by omega)
      rw [e1, e2, sb_in (by omega), sb_in (by omega), ad_in (x := 4096 * t.2.1) (by omega), ad_in (x := 4096 * t.2.2) (by omega), ad_in (by omega), ad_in (by omega)]
    · have h1 : (decide (b < 0) || decide (2047 < b)) = true := by simp only [Bool.or_eq_true, decide_eq_true_eq]; omega
      rw [show Win t b = _ from if_neg fun hh => hb hh.2, Bool.or_assoc, h1]
      simp
  · rw [decide_eq_false h, show Win t b = _ from if_neg fun hh => h hh.1]; simp
theorem Place_eq (t : Tl) : window_Place t = some (Win t 0) := by
  unfold window_Place
  rw [Window_eq]; rfl
/-- The tiles of a level, in order. -/
def Grid (z : Int) : List Tl := (List.range (Pw z * Pw z)).map fun i => (z, ((i / Pw z : Nat) : Int), ((i % Pw z : Nat) : Int))
theorem Grid_len (z : Int) : (Grid z).length = Pw z * Pw z := by simp [Grid]
theorem Grid_bound (z : Int) : Pw z * Pw z ≤ 256 := Nat.mul_le_mul (Pw_le z) (Pw_le z)
theorem Grid_get {z : Int} {x y : Nat} (hx : x < Pw z) (hy : y < Pw z) : Pw z * x + y < Pw z * Pw z ∧ (Grid z).getD (Pw z * x + y) (0, 0, 0) = (z, (x : Int), (y : Int)) := by
  have h1 : Pw z * x + y < Pw z * Pw z := by
    have : Pw z * (x + 1) ≤ Pw z * Pw z := Nat.mul_le_mul_left _ hx
    rw [Nat.mul_add] at this
    omega
  refine ⟨h1, ?_⟩
  rw [List.getD_eq_getElem?_getD, Grid, List.getElem?_map, List.getElem?_range h1]
  simp only [Option.map_some, Option.getD_some]
  rw [Nat.mul_add_div (by omega), Nat.div_eq_of_lt hy, Nat.mul_add_mod, Nat.mod_eq_of_lt hy, Nat.add_zero]
theorem Grid_mem {z : Int} {t : Tl} (h : t ∈ Grid z) : ∃ x y : Nat, x < Pw z ∧ y < Pw z ∧ t = (z, (x : Int), (y : Int)) := by
  obtain ⟨i, hi, rfl⟩ := List.mem_map.1 h
  have hi := List.mem_range.1 hi
  have hp : 0 < Pw z := by
    rcases Nat.eq_zero_or_pos (Pw z) with h0 | h0
    · rw [h0] at hi; omega
    · exact h0
  exact ⟨i / Pw z, i % Pw z, Nat.div_lt_of_lt_mul hi, Nat.mod_lt _ hp, rfl⟩
theorem Grid_in {z : Int} {x y : Nat} (hx : x < Pw z) (hy : y < Pw z) : ((z, (x : Int), (y : Int)) : Tl) ∈ Grid z := by
  obtain ⟨h1, h2⟩ := Grid_get hx hy
  rw [← h2]
  exact getD_mem (by rw [Grid_len]; exact h1)
theorem Grid_nodup (z : Int) : (Grid z).Nodup := by
  unfold Grid
  refine List.pairwise_map.2 (List.Pairwise.imp ?_ List.nodup_range)
  intro i j hne h
  injection h with _ h
  injection h with h1 h2
  have e1 : i / Pw z = j / Pw z := by omega
  have e2 : i % Pw z = j % Pw z := by omega
  refine hne ?_
  rw [← Nat.div_add_mod i (Pw z), ← Nat.div_add_mod j (Pw z), e1, e2]
theorem All20_eq (z : Int) : window_All z = some (Grid z) := by
  unfold window_All window_All_l1
  rw [count_eq, bind_some']
  have hb := Grid_bound z
  have := loopO_nat (body := fun s => window_All_b1 z (Pw z : Int) s.1 s.2) (fun x => ((Grid z).take (Pw z * x), (x : Int))) (Pw z) (Grid z) (fun x hx => by
    unfold window_All_b1 window_All_l2
    simp only [dlt hx, if_true, count_eq, bind_some']
    have := loopO_nat (body := fun s => window_All_b2 z (x : Int) (Pw z : Int) s.1 s.2) (fun y => ((Grid z).take (Pw z * x + y), (y : Int))) (Pw z) (Sum.inl ((Grid z).take (Pw z * (x + 1)), ((x + 1 : Nat) : Int))) (fun y hy => by
      unfold window_All_b2
      obtain ⟨h1, h2⟩ := Grid_get hx hy
      simp only [dlt hy, if_true]
      rw [app_le (by simp only [List.length_take, List.length_cons, List.length_nil]; omega), bind_some', ad_one (by omega), ← h2, ← snoc_take (0, 0, 0) (by rw [Grid_len]; exact h1)]; rfl) (by
      unfold window_All_b2
      simp only [dnlt (Nat.lt_irrefl _), Bool.false_eq_true, if_false, Option.map_some]
      rw [ad_one (by have := Pw_le z; omega), Nat.mul_add, Nat.mul_one])
    exact this) (by
    unfold window_All_b1
    simp only [dnlt (Nat.lt_irrefl _), Bool.false_eq_true, if_false, Option.map_some]
    rw [List.take_of_length_le (by rw [Grid_len]; exact Nat.le_refl _)])
  rw [show (Grid z).take (Pw z * 0) = [] by simp] at this
  exact this
theorem refAll20_eq (z : Int) : ref20_All z = some (Grid z) := by
  unfold ref20_All ref20_All_l1
  rw [Level_eq, bind_some']
  by_cases hz : 0 ≤ z ∧ z ≤ 4
  · rw [decide_eq_true hz]
    simp only [Bool.not_true, Bool.false_eq_true, if_false]
    have hb := Grid_bound z
    have := loopO_nat (body := fun s => ref20_All_b1 z s.1 s.2) (fun x => ((Grid z).take (Pw z * x), (x : Int))) (Pw z) (Grid z) (fun x hx => by
      unfold ref20_All_b1 ref20_All_l2
      simp only [Power_eq hz, dlt hx, if_true, bind_some']
      have := loopO_nat (body := fun s => ref20_All_b2 z (x : Int) s.1 s.2) (fun y => ((Grid z).take (Pw z * x + y), (y : Int))) (Pw z) (Sum.inl ((Grid z).take (Pw z * (x + 1)), ((x + 1 : Nat) : Int))) (fun y hy => by
        unfold ref20_All_b2
        obtain ⟨h1, h2⟩ := Grid_get hx hy
        simp only [Power_eq hz, bind_some', dlt hy, if_true]
        rw [app_le (by simp only [List.length_take, List.length_cons, List.length_nil]; omega), bind_some', ad_one (by omega), ← h2, ← snoc_take (0, 0, 0) (by rw [Grid_len]; exact h1)]; rfl) (by
        unfold ref20_All_b2
        simp only [Power_eq hz, bind_some', dnlt (Nat.lt_irrefl _), Bool.false_eq_true, if_false, Option.map_some]
        rw [ad_one (by have := Pw_le z; omega), Nat.mul_add, Nat.mul_one])
      exact this) (by
      unfold ref20_All_b1
      simp only [Power_eq hz, bind_some', dnlt (Nat.lt_irrefl _), Bool.false_eq_true, if_false, Option.map_some]
      rw [List.take_of_length_le (by rw [Grid_len]; exact Nat.le_refl _)])
    rw [show (Grid z).take (Pw z * 0) = [] by simp] at this
    exact this
  · rw [decide_eq_false hz]
    have : Grid z = [] := by unfold Grid; rw [show Pw z = 0 from if_neg hz]; rfl
    rw [this]; rfl

/-! ### boxes -/
def RB (b : Bx) : Prop := May b.1 ∧ May b.2 ∧ b.1.1 ≤ b.2.1 ∧ b.1.2 ≤ b.2.2
instance (b : Bx) : Decidable (RB b) := by unfold RB; infer_instance
theorem rowsRight_eq (b : Bx) : rows_Right b = some (decide (RB b)) := by
  unfold rows_Right RB
  rw [Right_eq _ (by simp), bind_some', bind_some']
  by_cases h1 : May b.1 <;> by_cases h2 : May b.2 <;> by_cases h3 : b.1.1 ≤ b.2.1 <;> by_cases h4 : b.1.2 ≤ b.2.2 <;> simp [h1, h2, h3, h4]
theorem refMay_eq (p : Pt) : ref01_May p = some (decide (May p)) := by
  unfold ref01_May May
  by_cases h1 : -16777216 ≤ p.1 <;> by_cases h2 : p.1 ≤ 16777216 <;> by_cases h3 : -16777216 ≤ p.2 <;> by_cases h4 : p.2 ≤ 16777216 <;> simp [h1, h2, h3, h4]
theorem ref06Right_eq (b : Bx) : ref06_Right b = some (decide (RB b)) := by
  unfold ref06_Right RB
  rw [refMay_eq, refMay_eq, bind_some']
  by_cases h1 : May b.1 <;> by_cases h2 : May b.2 <;> by_cases h3 : b.1.1 ≤ b.2.1 <;> by_cases h4 : b.1.2 ≤ b.2.2 <;> simp [h1, h2, h3, h4]
def Mt (a b : Bx) : Prop := RB a ∧ RB b ∧ a.1.1 ≤ b.2.1 ∧ b.1.1 ≤ a.2.1 ∧ a.1.2 ≤ b.2.2 ∧ b.1.2 ≤ a.2.2
instance (a b : Bx) : Decidable (Mt a b) := by unfold Mt; infer_instance
theorem rowsMeet_eq (a b : Bx) : rows_Meet a b = some (decide (Mt a b)) := by
  unfold rows_Meet Mt
  rw [rowsRight_eq, rowsRight_eq, bind_some']
  by_cases h1 : RB a <;> by_cases h2 : RB b <;> by_cases h3 : a.1.1 ≤ b.2.1 <;> by_cases h4 : b.1.1 ≤ a.2.1 <;> by_cases h5 : a.1.2 ≤ b.2.2 <;> by_cases h6 : b.1.2 ≤ a.2.2 <;> simp [h1, h2, h3, h4, h5, h6]
theorem ref06Meet_eq (a b : Bx) : ref06_Meet a b = some (decide (Mt a b)) := by
  unfold ref06_Meet
  rw [ref06Right_eq, ref06Right_eq, bind_some']
  by_cases h1 : RB a
  · by_cases h2 : RB b
    · simp only [decide_eq_true h1, decide_eq_true h2, Bool.not_true, Bool.not_false, gd_true, bind_some', Bool.or_false, Bool.false_eq_true, if_false, mn_eq, mx_eq]
      refine congrArg some ?_
      have hx := h1.2.2
      have hy := h2.2.2
      by_cases hm : Mt a b
      · rw [decide_eq_true hm, decide_eq_true, decide_eq_true]
        · rfl
        · have := hm.2.2; omega
        · have := hm.2.2; omega
      · rw [decide_eq_false hm, Bool.and_eq_false_iff, decide_eq_false_iff_not, decide_eq_false_iff_not]
        refine Classical.byContradiction fun hh => hm ⟨h1, h2, ?_⟩
        omega
    · simp [h1, h2, Mt]
  · simp [h1, Mt]
theorem box_eq (b : Bx) : law20_box b = some b := rfl

/-! ### those that show something of a box -/
/-- Does a number's window show something? -/
def Sh (b lo hi : Int) (i : Int) : Prop := 4096 * i - b < hi ∧ lo < 4096 * (i + 1) + b
instance (b lo hi i : Int) : Decidable (Sh b lo hi i) := by unfold Sh; infer_instance
/-- The iterator, along the states that its rounds leave. -/
theorem shown_eq {S : Type} (yy : S → Int → Option (Bool × S)) (n : Nat) (b lo hi : Int) (hn : n ≤ 16) (hb : 0 ≤ b ∧ b ≤ 2047) (st : Nat → S)
    (h1 : ∀ k, k < n → Sh b lo hi k → yy (st k) (k : Int) = some (true, st (k + 1))) (h2 : ∀ k, k < n → ¬ Sh b lo hi k → st (k + 1) = st k) :
    window_shown_1 S yy (st 0) (n : Int) hi b lo = some (st n) := by
  unfold window_shown_1 window_shown_1_l1
  exact loopO_nat (body := fun s => window_shown_1_b1 S yy (n : Int) hi b lo s.1 s.2) (fun k => ((k : Int), st k)) n (st n) (fun k hk => by
    unfold window_shown_1_b1
    simp only [dlt hk, if_true, bind_some']
    have e1 : ml 4096 (k : Int) = 4096 * k := ml_in (by omega)
    have e2 : ad (k : Int) 1 = ((k + 1 : Nat) : Int) := ad_one (by omega)
    have e3 : ml 4096 ((k + 1 : Nat) : Int) = 4096 * (k + 1 : Nat) := ml_in (by omega)
    rw [e1, e2, e3, sb_in (by omega), ad_in (by omega)]
    by_cases h : Sh b lo hi k
    · have hd : (decide (4096 * (k : Int) - b < hi) && decide (lo < 4096 * ((k + 1 : Nat) : Int) + b)) = true := by
        simp only [Bool.and_eq_true, decide_eq_true_eq]
        exact ⟨h.1, by have := h.2; omega⟩
      rw [hd, gd_true, h1 k hk h]; rfl
    · have hd : (decide (4096 * (k : Int) - b < hi) && decide (lo < 4096 * ((k + 1 : Nat) : Int) + b)) = false := by
        simp only [Bool.and_eq_false_iff, decide_eq_false_iff_not]
        refine Classical.byContradiction fun hh => h ?_
        unfold Sh
        omega
      rw [hd, gd_false, h2 k hk h]; rfl) (by
    unfold window_shown_1_b1
    simp only [dnlt (Nat.lt_irrefl _)]; rfl)
def ShT (b : Int) (x : Bx) (t : Tl) : Bool := decide (Sh b x.1.1 x.2.1 t.2.1) && decide (Sh b x.1.2 x.2.2 t.2.2)
def Shw (z b : Int) (x : Bx) : List Tl := if (0 ≤ b ∧ b ≤ 2047) ∧ RB x then (Grid z).filter (ShT b x) else []
theorem filter_snoc {α : Type} {l : List α} {k : Nat} (d : α) (p : α → Bool) (h : k < l.length) : (l.take (k + 1)).filter p = (l.take k).filter p ++ if p (l.getD k d) then [l.getD k d] else [] := by
  rw [snoc_take d h, List.filter_append]
  congr 1
  generalize l.getD k d = x
  by_cases hp : p x = true
  · rw [if_pos hp, List.filter_cons, if_pos hp]; rfl
  · rw [if_neg hp, List.filter_cons, if_neg hp]; rfl
theorem Shown_eq (z b : Int) (x : Bx) : window_Shown z b x = some (Shw z b x) := by
  unfold window_Shown
  rw [buffered_eq, bind_some']
  by_cases hb : 0 ≤ b ∧ b ≤ 2047
  · rw [decide_eq_true hb]
    simp only [Bool.not_true, Bool.not_false, gd_true, rowsRight_eq, bind_some', Bool.false_or]
    by_cases hx : RB x
    · rw [decide_eq_true hx, show Shw z b x = _ from if_pos ⟨hb, hx⟩]
      simp only [Bool.not_true, Bool.false_eq_true, if_false, count_eq, bind_some']
      have hbd := Grid_bound z
      have key := shown_eq (S := List Tl ⊕ Empty) (yb (fun (sr : List Tl) (xr : Int) => window_Shown_b3 z b x (Pw z : Int) sr xr)) (Pw z) b x.1.1 x.2.1 (Pw_le z) hb (fun k => .inl (((Grid z).take (Pw z * k)).filter (ShT b x))) (fun k hk hs => by
        have inner := shown_eq (S := List Tl ⊕ Empty) (yb (fun (sr : List Tl) (xr : Int) => window_Shown_b1 z (k : Int) sr xr)) (Pw z) b x.1.2 x.2.2 (Pw_le z) hb (fun y => .inl (((Grid z).take (Pw z * k + y)).filter (ShT b x))) (fun y hy hsy => by
          obtain ⟨g1, g2⟩ := Grid_get hk hy
          refine yb_go ?_
          unfold window_Shown_b1
          have hl := List.length_filter_le (ShT b x) ((Grid z).take (Pw z * k + y))
          rw [List.length_take] at hl
          rw [app_le (by simp only [List.length_cons, List.length_nil]; omega), bind_some', ← Nat.add_assoc, filter_snoc (0, 0, 0) _ (by rw [Grid_len]; exact g1), g2]
          rw [if_pos (show ShT b x (z, (k : Int), (y : Int)) = true by unfold ShT; rw [decide_eq_true hs, decide_eq_true hsy]; rfl)]) (fun y hy hsy => by
          obtain ⟨g1, g2⟩ := Grid_get hk hy
          rw [← Nat.add_assoc, filter_snoc (0, 0, 0) _ (by rw [Grid_len]; exact g1), g2]
          rw [if_neg (show ¬ ShT b x (z, (k : Int), (y : Int)) = true by unfold ShT; rw [decide_eq_false hsy]; simp), List.append_nil])
        refine yb_go ?_
        unfold window_Shown_b3
        simp only [Nat.add_zero] at inner
        rw [inner, show Pw z * k + Pw z = Pw z * (k + 1) by rw [Nat.mul_add, Nat.mul_one]]
        rfl) (fun k hk hs => by
        congr 1
        have hrow : ∀ m, m ≤ Pw z → ((Grid z).take (Pw z * k + m)).filter (ShT b x) = ((Grid z).take (Pw z * k)).filter (ShT b x) := by
          intro m
          induction m with
          | zero => intro _; rfl
          | succ m ih =>
            intro hm
            obtain ⟨g1, g2⟩ := Grid_get hk (show m < Pw z by omega)
            rw [← Nat.add_assoc, filter_snoc (0, 0, 0) _ (by rw [Grid_len]; exact g1), g2]
            rw [if_neg (show ¬ ShT b x (z, (k : Int), (m : Int)) = true by unfold ShT; rw [decide_eq_false hs]; simp), List.append_nil]
            exact ih (by omega)
        rw [Nat.mul_add, Nat.mul_one]
        exact hrow (Pw z) (Nat.le_refl _))
      rw [show ((Grid z).take (Pw z * 0)).filter (ShT b x) = [] by simp] at key
      have key' : window_shown_1 (List Tl ⊕ Empty) (yb (fun (sr : List Tl) (xr : Int) => window_Shown_b3 z b x (Pw z : Int) sr xr)) (Sum.inl []) (Pw z : Int) x.2.1 b x.1.1 = some (.inl (((Grid z).take (Pw z * Pw z)).filter (ShT b x))) := key
      rw [key', List.take_of_length_le (by rw [Grid_len]; exact Nat.le_refl _)]; rfl
    · rw [decide_eq_false hx, show Shw z b x = _ from if_neg fun hh => hx hh.2]; rfl
  · rw [decide_eq_false hb, show Shw z b x = _ from if_neg fun hh => hb hh.1]; rfl
theorem Grid_Rt {z : Int} {t : Tl} (h : t ∈ Grid z) : Rt t ∧ t.1 = z := by
  obtain ⟨x, y, hx, hy, rfl⟩ := Grid_mem h
  exact ⟨⟨by simp, by simpa using hx, by simp, by simpa using hy⟩, rfl⟩
theorem refShown_eq (z b : Int) (x : Bx) : ref20_Shown z b x = some (Shw z b x) := by
  unfold ref20_Shown ref20_Shown_l1
  rw [bind_some']
  by_cases hb : 0 ≤ b ∧ b ≤ 2047
  · have h1 : (decide (b < 0) || decide (2047 < b)) = false := by simp only [Bool.or_eq_false_iff, decide_eq_false_iff_not]; omega
    rw [h1]
    simp only [Bool.not_false, gd_true, ref06Right_eq, bind_some', Bool.false_or]
    by_cases hx : RB x
    · rw [decide_eq_true hx, show Shw z b x = _ from if_pos ⟨hb, hx⟩]
      simp only [Bool.not_true, Bool.false_eq_true, if_false, refAll20_eq, bind_some']
      have hbd := Grid_bound z
      have := loopO_nat (body := fun s => ref20_Shown_b1 b x (Grid z) s.1 s.2) (fun k => (((Grid z).take k).filter (ShT b x), (k : Int))) (Grid z).length ((Grid z).filter (ShT b x)) (fun k hk => by
        unfold ref20_Shown_b1 ref20_Shown_k2
        have hr := (Grid_Rt (getD_mem (d := ((0, 0, 0) : Tl)) hk)).1
        have hle := hr.le
        have hl := List.length_filter_le (ShT b x) ((Grid z).take k)
        rw [List.length_take] at hl
        have hgl := Grid_len z
        rw [Grid_len] at hk
        simp only [show decide ((k : Int) < ((Grid z).length : Int)) = true by rw [Grid_len]; exact dlt hk, if_true, ix_getD (0, 0, 0) (show k < (Grid z).length by rw [Grid_len]; exact hk), bind_some', refWindow_eq, Win_pos hr hb, ad_one (show k < 1000000000 by omega)]
        rw [filter_snoc (0, 0, 0) _ (by rw [Grid_len]; exact hk)]
        have hc : (((decide (4096 * ((Grid z).getD k (0, 0, 0)).2.1 - b < x.2.1) && decide (x.1.1 < 4096 * ((Grid z).getD k (0, 0, 0)).2.1 + 4096 + b)) && decide (4096 * ((Grid z).getD k (0, 0, 0)).2.2 - b < x.2.2)) && decide (x.1.2 < 4096 * ((Grid z).getD k (0, 0, 0)).2.2 + 4096 + b)) = ShT b x ((Grid z).getD k (0, 0, 0)) := by
          unfold ShT
          rw [Bool.eq_iff_iff]
          simp only [Bool.and_eq_true, decide_eq_true_eq]
          unfold Sh
          omega
        rw [hc]
        cases hs : ShT b x ((Grid z).getD k (0, 0, 0)) with
        | true =>
          simp only [if_true]
          have hlen : (((Grid z).take k).filter (ShT b x)).length + [(Grid z).getD k ((0, 0, 0) : Tl)].length ≤ 1000000000 := by simp only [List.length_cons, List.length_nil]; omega
          rw [app_le hlen, bind_some']
        | false => simp) (by
        unfold ref20_Shown_b1
        simp only [dnlt (Nat.lt_irrefl _), Bool.false_eq_true, if_false, List.take_length]; rfl)
      exact this
    · rw [decide_eq_false hx, show Shw z b x = _ from if_neg fun hh => hx hh.2]; rfl
  · have h1 : (decide (b < 0) || decide (2047 < b)) = true := by simp only [Bool.or_eq_true, decide_eq_true_eq]; omega
    rw [h1, show Shw z b x = _ from if_neg fun hh => hb hh.1]; rfl
theorem same20_eq (a b : List Tl) (hn : a.length ≤ 1000000) : law20_same a b = some (decide (a = b)) := by
  unfold law20_same law20_same_l1
  by_cases hl : a.length = b.length
  · have hd : decide ((a.length : Int) = (b.length : Int)) = true := by simp only [decide_eq_true_eq]; omega
    simp only [hd, Bool.not_true, Bool.false_eq_true, if_false]
    have := loopO_all (body := fun s => law20_same_b1 a b s) (fun k => (k : Int)) a.length (fun k => a.getD k (0, 0, 0) = b.getD k (0, 0, 0)) true false (fun k hk hok => by
      unfold law20_same_b1
      simp only [dlt hk, if_true, ix_getD (0, 0, 0) hk, ix_getD (0, 0, 0) (show k < b.length by omega), bind_some', hok, decide_true, Bool.not_true, Bool.false_eq_true, if_false, ad_one (show k < 1000000000 by omega)]) (fun k hk hok => by
      unfold law20_same_b1
      simp only [dlt hk, if_true, ix_getD (0, 0, 0) hk, ix_getD (0, 0, 0) (show k < b.length by omega), bind_some', decide_eq_false hok, Bool.not_false]; rfl) (by
      unfold law20_same_b1
      simp only [dnlt (Nat.lt_irrefl _)]; rfl)
    refine (show loopO _ _ = _ from this).trans ?_
    congr 1
    by_cases h : a = b
    · subst h
      rw [if_pos (fun _ _ => rfl), decide_eq_true rfl]
    · rw [if_neg (fun hh => h (ext_getD (0, 0, 0) hl hh)), decide_eq_false h]
  · have hd : decide ((a.length : Int) = (b.length : Int)) = false := by simp only [decide_eq_false_iff_not]; omega
    simp only [hd, Bool.not_false, if_true]
    rw [decide_eq_false (fun h => hl (by rw [h]))]
end Go.Proofs.Ytehmjkdgakinbaa.Pl
