/-
  Chapter 04, plainly: numbers each once, rows compared. No program in sight.
-/
import Derived.Test.YtajbjhcnppiloaaCompact
import Derived.Test.YtajbjhcnppiloaaSall
namespace Go.Proofs.Ytajbjhcnppiloaa.Pl

/-! ### numbers -/
def ltI (x y : Int) : Bool := decide (x < y)
theorem wkI : Wk ltI := ⟨fun x => by simp [ltI], fun h1 h2 => by simp only [ltI, decide_eq_true_eq] at *; omega, fun h1 h2 => by simp only [ltI, decide_eq_false_iff_not] at *; omega⟩
theorem CloneI_eq (l : List Int) (hl : l.length ≤ 1000000) : slices_Clone_int_int l = some l := by
  unfold slices_Clone_int_int
  rw [app_le (by simp; omega)]; rfl
theorem sortedUniq_eq (l : List Int) (hl : l.length ≤ 1000000) : order_sorted_int_Uniq_1 l = some (isort ltI l) :=
  (show sortedG order_Uniq_1 l = _ from sorted_eq wkI l hl fun x _ y _ => rfl)
theorem CompactI_eq (l : List Int) (hl : l.length ≤ 1000000) : slices_Compact_int_int l = some (dd l) :=
  (show CompactG 0 l = _ from Compact_eq 0 l hl)
/-- Numbers, rising, each once. -/
def uq (l : List Int) : List Int := dd (isort ltI l)
theorem Uniq_eq (l : List Int) (hl : l.length ≤ 1000000) : order_Uniq l = some (uq l) := by
  unfold order_Uniq
  rw [sortedUniq_eq l hl, bind_some', CompactI_eq _ (by rw [isort_len]; exact hl)]; rfl
theorem mem_uq {l : List Int} {x : Int} : x ∈ uq l ↔ x ∈ l := by
  unfold uq
  rw [mem_dd, (isort_perm l).mem_iff]
def Up (l : List Int) : Prop := l.Pairwise (· < ·)
def Ris (l : List Int) : Prop := l.Pairwise (· ≤ ·)
theorem inc_ris {l : List Int} : Inc ltI l ↔ Ris l := by
  unfold Inc Ris
  constructor
  · intro h; exact h.imp fun {a b} h => by simp only [ltI, decide_eq_false_iff_not] at h; omega
  · intro h; exact h.imp fun {a b} h => by simp only [ltI, decide_eq_false_iff_not]; omega
theorem ddr_up : ∀ (p : Int) (l : List Int), Ris l → (∀ x ∈ l, p ≤ x) → (ddr p l).Pairwise (· < ·) ∧ ∀ x ∈ ddr p l, p < x
  | p, [], _, _ => ⟨List.Pairwise.nil, fun x h => by simp [ddr] at h⟩
  | p, y :: t, h, hp => by
    have h' := List.pairwise_cons.1 h
    unfold ddr
    split
    · exact ddr_up p t h'.2 fun x hx => hp x (by simp [hx])
    · rename_i hy
      have hpy : p < y := by have := hp y (by simp); omega
      obtain ⟨i1, i2⟩ := ddr_up y t h'.2 h'.1
      refine ⟨List.pairwise_cons.2 ⟨i2, i1⟩, fun x hx => ?_⟩
      rcases List.mem_cons.1 hx with rfl | hx
      · exact hpy
      · have := i2 x hx; omega
theorem dd_up {l : List Int} (h : Ris l) : Up (dd l) := by
  cases l with
  | nil => exact List.Pairwise.nil
  | cons x t =>
    have h' := List.pairwise_cons.1 h
    obtain ⟨i1, i2⟩ := ddr_up x t h'.2 h'.1
    exact List.pairwise_cons.2 ⟨i2, i1⟩
theorem uq_up (l : List Int) : Up (uq l) := dd_up (inc_ris.1 (isort_inc wkI l))
theorem uq_len (l : List Int) : (uq l).length ≤ l.length := by
  have := dd_len_le (isort ltI l)
  rw [isort_len] at this
  exact this
theorem up_eq : ∀ {l m : List Int}, Up l → Up m → (∀ x, x ∈ l ↔ x ∈ m) → l = m
  | [], [], _, _, _ => rfl
  | [], y :: m, _, _, h => by have := (h y).2 (by simp); simp at this
  | x :: l, [], _, _, h => by have := (h x).1 (by simp); simp at this
  | x :: l, y :: m, hl, hm, h => by
    have hl' := List.pairwise_cons.1 hl
    have hm' := List.pairwise_cons.1 hm
    have hxy : x = y := by
      have h1 := (h x).1 (by simp)
      have h2 := (h y).2 (by simp)
      rcases List.mem_cons.1 h1 with h1 | h1
      · exact h1
      · rcases List.mem_cons.1 h2 with h2 | h2
        · exact h2.symm
        · have := hm'.1 x h1
          have := hl'.1 y h2
          omega
    subst hxy
    congr 1
    refine up_eq hl'.2 hm'.2 fun z => ?_
    have hz := h z
    constructor
    · intro hzl
      have h1 := hl'.1 z hzl
      rcases List.mem_cons.1 (hz.1 (by simp [hzl])) with h2 | h2
      · omega
      · exact h2
    · intro hzm
      have h1 := hm'.1 z hzm
      rcases List.mem_cons.1 (hz.2 (by simp [hzm])) with h2 | h2
      · omega
      · exact h2
/-! ### rows compared -/
def cmpL : List Int → List Int → Int
  | [], [] => 0
  | [], _ :: _ => -1
  | _ :: _, [] => 1
  | x :: a, y :: b => if x < y then -1 else if y < x then 1 else cmpL a b
theorem refCompare_eq (a b : List Int) (ha : a.length ≤ 1000000) (hb : b.length ≤ 1000000) : ref04_Compare a b = some (cmpL a b) := by
  unfold ref04_Compare ref04_Compare_l1
  have key : ∀ n k : Nat, k ≤ a.length → k ≤ b.length → a.length - k = n → loopO (fun s => ref04_Compare_b1 a b s) (k : Int) = some (cmpL (a.drop k) (b.drop k)) := by
    intro n
    induction n with
    | zero =>
      intro k h1 h2 h3
      have hk : k = a.length := by omega
      refine loopO_inr ?_
      unfold ref04_Compare_b1
      have hd : decide ((k : Int) < (a.length : Int)) = false := dnlt (by omega)
      simp only [hd, Bool.false_and, bind_some', Bool.false_eq_true, if_false]
      rw [sb_in (by omega), List.drop_of_length_le (by omega)]
      unfold ref01_Sign
      rw [decide_eq_false (by omega), if_neg (by decide)]
      by_cases hkb : k < b.length
      · rw [drop_cons 0 hkb, decide_eq_true (by omega)]; rfl
      · rw [List.drop_of_length_le (by omega), decide_eq_false (by omega)]; rfl
    | succ n ih =>
      intro k h1 h2 h3
      have hka : k < a.length := by omega
      by_cases hkb : k < b.length
      · rw [drop_cons 0 hka, drop_cons 0 hkb]
        unfold cmpL
        by_cases hlt : a.getD k 0 < b.getD k 0
        · rw [if_pos hlt]
          refine loopO_inr ?_
          unfold ref04_Compare_b1
          simp only [dlt hka, dlt hkb, Bool.and_self, bind_some', if_true, ix_getD 0 hka, ix_getD 0 hkb, decide_eq_true hlt]; rfl
        · rw [if_neg hlt]
          by_cases hgt : b.getD k 0 < a.getD k 0
          · rw [if_pos hgt]
            refine loopO_inr ?_
            unfold ref04_Compare_b1
            simp only [dlt hka, dlt hkb, Bool.and_self, bind_some', if_true, ix_getD 0 hka, ix_getD 0 hkb, decide_eq_false hlt, decide_eq_true hgt]; rfl
          · rw [if_neg hgt, ← ih (k + 1) (by omega) (by omega) (by omega)]
            refine loopO_inl ?_
            unfold ref04_Compare_b1
            simp only [dlt hka, dlt hkb, Bool.and_self, bind_some', if_true, ix_getD 0 hka, ix_getD 0 hkb, decide_eq_false hlt, decide_eq_false hgt, Bool.false_eq_true, if_false, ad_one (show k < 1000000000 by omega)]
      · refine loopO_inr ?_
        unfold ref04_Compare_b1
        simp only [dnlt hkb, Bool.and_false, bind_some', Bool.false_eq_true, if_false]
        rw [sb_in (by omega), List.drop_of_length_le (l := b) (by omega), drop_cons 0 hka]
        unfold ref01_Sign
        rw [decide_eq_true (by omega)]; rfl
  exact key a.length 0 (Nat.zero_le _) (Nat.zero_le _) (by omega)
theorem cmpL_self : ∀ a : List Int, cmpL a a = 0
  | [] => rfl
  | x :: a => by unfold cmpL; rw [if_neg (by omega), if_neg (by omega)]; exact cmpL_self a
theorem cmpL_zero : ∀ {a b : List Int}, cmpL a b = 0 → a = b
  | [], [], _ => rfl
  | [], _ :: _, h => by simp [cmpL] at h
  | _ :: _, [], h => by simp [cmpL] at h
  | x :: a, y :: b, h => by
    unfold cmpL at h
    split at h
    · simp at h
    · split at h
      · simp at h
      · have hxy : x = y := by omega
        rw [hxy, cmpL_zero h]
theorem Ints_eq (a b : List Int) (ha : a.length ≤ 1000000) (hb : b.length ≤ 1000000) : law04_Ints a b = some (decide (a = b)) := by
  unfold law04_Ints
  rw [refCompare_eq a b ha hb, bind_some']
  by_cases h : a = b
  · subst h; rw [cmpL_self, decide_eq_true rfl, decide_eq_true rfl]
  · rw [decide_eq_false h, decide_eq_false fun hh => h (cmpL_zero hh)]
end Go.Proofs.Ytajbjhcnppiloaa.Pl
