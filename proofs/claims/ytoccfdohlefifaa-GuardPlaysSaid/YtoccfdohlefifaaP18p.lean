import Derived.Test.YtoccfdohlefifaaCompact
import Derived.Test.YtoccfdohlefifaaSall
namespace Go.Proofs.Ytoccfdohlefifaa.Pl
def ltI (x y : Int) : Bool := decide (x < y)
theorem wkI : Wk ltI := ⟨fun x => by simp [ltI], fun h1 h2 => by simp only [ltI, decide_eq_true_eq] at *; omega, fun h1 h2 => by simp only [ltI, decide_eq_false_iff_not] at *; omega⟩
theorem sortedUniq_eq (l : List Int) (hl : l.length ≤ 1000000) : order_sorted_int_Uniq_1 l = some (isort ltI l) :=
  (show sortedG order_Uniq_1 l = _ from sorted_eq wkI l hl fun x _ y _ => rfl)
theorem CompactI_eq (l : List Int) (hl : l.length ≤ 1000000) : slices_Compact_int_int l = some (dd l) :=
  (show CompactG 0 l = _ from Compact_eq 0 l hl)
def uq (l : List Int) : List Int := dd (isort ltI l)
theorem Uniq_eq (l : List Int) (hl : l.length ≤ 1000000) : order_Uniq l = some (uq l) := by
  unfold order_Uniq
  rw [sortedUniq_eq l hl, bind_some', CompactI_eq _ (by rw [isort_len]; exact hl)]; rfl
theorem mem_uq {l : List Int} {x : Int} : x ∈ uq l ↔ x ∈ l := by
  unfold uq
  rw [mem_dd, (isort_perm l).mem_iff]
def Up (l : List Int) : Prop := l.Pairwise (· < ·)
def Ris (l : List Int) : Prop := l.Pairwise (· ≤ ·)
theorem inc_ris {l : List Int} : Inc ltI l ↔ Ris l := by
  unfold Inc Ris
  constructor
  · intro h; exact h.imp fun {a b} h => by simp only [ltI, decide_eq_false_iff_not] at h; omega
  · intro h; exact h.imp fun {a b} h => by simp only [ltI, decide_eq_false_iff_not]; omega
theorem ddr_up : ∀ (p : Int) (l : List Int), Ris l → (∀ x ∈ l, p ≤ x) → (ddr p l).Pairwise (· < ·) ∧ ∀ x ∈ ddr p l, p < x
  | p, [], _, _ => ⟨List.Pairwise.nil, fun x h => by simp [ddr] at h⟩
  | p, y :: t, h, hp => by
    have h' := List.pairwise_cons.1 h
    unfold ddr
    split
    · exact ddr_up p t h'.2 fun x hx => hp x (by simp [hx])
    · rename_i hy
      have hpy : p < y := by have := hp y (by simp); omega
      obtain ⟨i1, i2⟩ := ddr_up y t h'.2 h'.1
      refine ⟨List.pairwise_cons.2 ⟨i2, i1⟩, fun x hx => ?_⟩
      rcases List.mem_cons.1 hx with rfl | hx
      · exact hpy
      · have := i2 x hx; omega
theorem dd_up {l : List Int} (h : Ris l) : Up (dd l) := by
  cases l with
  | nil => exact List.Pairwise.nil
  | cons x t =>
    have h' := List.pairwise_cons.1 h
    obtain ⟨i1, i2⟩ := ddr_up x t h'.2 h'.1
    exact List.pairwise_cons.2 ⟨i2, i1⟩
theorem uq_up (l : List Int) : Up (uq l) := dd_up (inc_ris.1 (isort_inc wkI l))
theorem up_eq : ∀ {l m : List Int}, Up l → Up m → (∀ x, x ∈ l ↔ x ∈ m) → l = m
  | [], [], _, _, _ => rfl
  | [], y :: m, _, _, h => by have := (h y).2 (by simp); simp at this
  | x :: l, [], _, _, h => by have := (h x).1 (by simp); simp at this
  | x :: l, y :: m, hl, hm, h => by
    have hl' := List.pairwise_cons.1 hl
    have hm' := List.pairwise_cons.1 hm
    have hxy : x = y := by
      have h1 := (h x).1 (by simp)
      have h2 := (h y).2 (by simp)
      rcases List.mem_cons.1 h1 with h1 | h1
      · exact h1
      · rcases List.mem_cons.1 h2 with h2 | h2
        · exact h2.symm
        · have := hm'.1 x h1
          have := hl'.1 y h2
          omega
    subst hxy
    congr 1
    refine up_eq hl'.2 hm'.2 fun z => ?_
    have hz := h z
    constructor
    · intro hzl
      have h1 := hl'.1 z hzl
      rcases List.mem_cons.1 (hz.1 (by simp [hzl])) with h2 | h2
      · omega
      · exact h2
    · intro hzm
      have h1 := hm'.1 z hzm
      rcases List.mem_cons.1 (hz.2 (by simp [hzm])) with h2 | h2
      · omega
      · exact h2
end Go.Proofs.Ytoccfdohlefifaa.Pl
