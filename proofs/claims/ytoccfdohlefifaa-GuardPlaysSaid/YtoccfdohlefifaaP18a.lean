import Derived.Test.YtoccfdohlefifaaP18p
namespace Go.Proofs.Ytoccfdohlefifaa.Pl
set_option maxRecDepth 4000
abbrev Pt := Int × Int
abbrev Bx := Pt × Pt
def May (p : Pt) : Prop := -16777216 ≤ p.1 ∧ p.1 ≤ 16777216 ∧ -16777216 ≤ p.2 ∧ p.2 ≤ 16777216
instance (p : Pt) : Decidable (May p) := by unfold May; infer_instance
theorem within_eq (n a b : Int) : exact_within n a b = some (decide (a ≤ n ∧ n ≤ b)) := by
  unfold exact_within
  rw [bind_some']
  by_cases h1 : a ≤ n <;> by_cases h2 : n ≤ b <;> simp [h1, h2]
theorem Right_eq (l : List Pt) (hn : l.length ≤ 1000000) : exact_Right l = some (decide (∀ p ∈ l, May p)) := by
  unfold exact_Right exact_Right_l1
  have hb : ∀ k, k < l.length → exact_Right_b1 l (k : Int) = some (if May (l.getD k (0, 0)) then .inl ((k + 1 : Nat) : Int) else .inr false) := fun k hk => by
    unfold exact_Right_b1
    simp only [dlt hk, if_true, ix_getD (0, 0) hk, bind_some', within_eq, ad_one (show k < 1000000000 by omega)]
    by_cases h1 : -16777216 ≤ (l.getD k (0, 0)).1 ∧ (l.getD k (0, 0)).1 ≤ 16777216
    · rw [decide_eq_true h1]
      simp only [Bool.not_true, Bool.not_false, gd_true, bind_some', Bool.false_or]
      by_cases h2 : -16777216 ≤ (l.getD k (0, 0)).2 ∧ (l.getD k (0, 0)).2 ≤ 16777216
      · rw [decide_eq_true h2, if_pos (show May _ from ⟨h1.1, h1.2, h2⟩)]; rfl
      · rw [decide_eq_false h2, if_neg (show ¬ May (l.getD k (0, 0)) from fun h => h2 h.2.2)]; rfl
    · rw [decide_eq_false h1, if_neg (show ¬ May (l.getD k (0, 0)) from fun h => h1 ⟨h.1, h.2.1⟩)]; rfl
  have := loopO_all (body := fun s => exact_Right_b1 l s) (fun k => (k : Int)) l.length (fun k => May (l.getD k (0, 0))) true false (fun k hk hok => by
    simp only [hb k hk, if_pos hok]) (fun k hk hok => by
    simp only [hb k hk, if_neg hok]) (by
    unfold exact_Right_b1
    simp only [dnlt (Nat.lt_irrefl _)]; rfl)
  refine (show loopO _ _ = _ from this).trans ?_
  congr 1
  by_cases h : ∀ p ∈ l, May p
  · rw [if_pos (fun k hk => h _ (getD_mem hk)), decide_eq_true h]
  · rw [if_neg (fun hh => h fun p hp => ?_), decide_eq_false h]
    obtain ⟨i, hi, rfl⟩ := mem_getD (d := ((0, 0) : Pt)) hp
    exact hh i hi
def RB (b : Bx) : Prop := May b.1 ∧ May b.2 ∧ b.1.1 ≤ b.2.1 ∧ b.1.2 ≤ b.2.2
instance (b : Bx) : Decidable (RB b) := by unfold RB; infer_instance
theorem rowsRight_eq (b : Bx) : rows_Right b = some (decide (RB b)) := by
  unfold rows_Right RB
  rw [Right_eq _ (by simp), bind_some', bind_some']
  by_cases h1 : May b.1 <;> by_cases h2 : May b.2 <;> by_cases h3 : b.1.1 ≤ b.2.1 <;> by_cases h4 : b.1.2 ≤ b.2.2 <;> simp [h1, h2, h3, h4]
def Mt (a b : Bx) : Prop := RB a ∧ RB b ∧ a.1.1 ≤ b.2.1 ∧ b.1.1 ≤ a.2.1 ∧ a.1.2 ≤ b.2.2 ∧ b.1.2 ≤ a.2.2
instance (a b : Bx) : Decidable (Mt a b) := by unfold Mt; infer_instance
theorem rowsMeet_eq (a b : Bx) : rows_Meet a b = some (decide (Mt a b)) := by
  unfold rows_Meet Mt
  rw [rowsRight_eq, rowsRight_eq, bind_some']
  by_cases h1 : RB a <;> by_cases h2 : RB b <;> by_cases h3 : a.1.1 ≤ b.2.1 <;> by_cases h4 : b.1.1 ≤ a.2.1 <;> by_cases h5 : a.1.2 ≤ b.2.2 <;> by_cases h6 : b.1.2 ≤ a.2.2 <;> simp [h1, h2, h3, h4, h5, h6]
theorem lk_up {K V : Type} [DecidableEq K] (k x : K) (v : V) : ∀ D : List (K × V), lkM (upM D k v) x = if x = k then some v else lkM D x
  | [] => rfl
  | p :: r => by
    unfold upM
    by_cases h : k = p.1
    · rw [if_pos h]
      unfold lkM
      by_cases hx : x = k
      · rw [if_pos hx, if_pos hx]
      · rw [if_neg hx, if_neg hx, if_neg (by rw [← h]; exact hx)]
    · rw [if_neg h]
      unfold lkM
      by_cases hx : x = p.1
      · rw [if_pos hx, if_neg (fun h' => h (h'.symm.trans hx)), if_pos hx]
      · rw [if_neg hx, lk_up k x v r, if_neg hx]
def irange (lo : Int) : Nat → List Int
  | 0 => []
  | n + 1 => lo :: irange (lo + 1) n
theorem mem_irange {x : Int} : ∀ {lo : Int} {n : Nat}, x ∈ irange lo n ↔ lo ≤ x ∧ x < lo + n
  | lo, 0 => by simp only [irange, List.not_mem_nil, false_iff]; omega
  | lo, n + 1 => by
    simp only [irange, List.mem_cons, mem_irange]
    omega
theorem irange_len : ∀ (lo : Int) (n : Nat), (irange lo n).length = n
  | lo, 0 => rfl
  | lo, n + 1 => by simp [irange, irange_len]
def rowC (b : Bx) (i : Int) : List Pt := (irange (b.1.2 / 256) (b.2.2 / 256 - b.1.2 / 256 + 1).toNat).map fun k => (i, k)
def cells (b : Bx) : List Pt := (irange (b.1.1 / 256) (b.2.1 / 256 - b.1.1 / 256 + 1).toNat).flatMap (rowC b)
theorem mem_cells {b : Bx} {f : Pt} : f ∈ cells b ↔ b.1.1 / 256 ≤ f.1 ∧ f.1 ≤ b.2.1 / 256 ∧ b.1.2 / 256 ≤ f.2 ∧ f.2 ≤ b.2.2 / 256 := by
  unfold cells rowC
  simp only [List.mem_flatMap, List.mem_map, mem_irange]
  constructor
  · rintro ⟨i, hi, k, hk, rfl⟩
    simp only; omega
  · intro h
    exact ⟨f.1, by omega, f.2, by omega, rfl⟩
theorem flat_len {α β : Type} (f : α → List β) (c : Nat) : ∀ (l : List α), (∀ x ∈ l, (f x).length = c) → (l.flatMap f).length = l.length * c
  | [], _ => by simp
  | x :: l, h => by
    rw [List.flatMap_cons, List.length_append, flat_len f c l fun y hy => h y (by simp [hy]), h x (by simp), List.length_cons, Nat.add_mul]; omega
theorem cells_len (b : Bx) : (cells b).length = (b.2.1 / 256 - b.1.1 / 256 + 1).toNat * (b.2.2 / 256 - b.1.2 / 256 + 1).toNat := by
  unfold cells
  rw [flat_len (rowC b) (b.2.2 / 256 - b.1.2 / 256 + 1).toNat, irange_len]
  intro x _
  unfold rowC
  rw [List.length_map, irange_len]
theorem srK8 (n : Int) : srK .i64 n 8 = some (n / 256) := by unfold srK; rw [if_pos (by decide)]; rfl
def Great (b : Bx) : Prop := 64 < (cells b).length
instance (b : Bx) : Decidable (Great b) := by unfold Great; infer_instance
theorem great_eq (b : Bx) (h : RB b) : rows_great b = some (decide (Great b)) := by
  unfold rows_great
  obtain ⟨h1, h2, h3, h4⟩ := h
  unfold May at h1 h2
  simp only [srK8, bind_some']
  have e1 : b.1.1 / 256 ≤ b.2.1 / 256 := by omega
  have e2 : b.1.2 / 256 ≤ b.2.2 / 256 := by omega
  obtain ⟨u, hu⟩ : ∃ u : Nat, b.2.1 / 256 - b.1.1 / 256 + 1 = (u : Int) ∧ u ≤ 200000 := ⟨(b.2.1 / 256 - b.1.1 / 256 + 1).toNat, by omega, by omega⟩
  obtain ⟨v, hv⟩ : ∃ v : Nat, b.2.2 / 256 - b.1.2 / 256 + 1 = (v : Int) ∧ v ≤ 200000 := ⟨(b.2.2 / 256 - b.1.2 / 256 + 1).toNat, by omega, by omega⟩
  have hc := cells_len b
  rw [hu.1, hv.1, Int.toNat_natCast, Int.toNat_natCast] at hc
  have hm : u * v ≤ 200000 * 200000 := Nat.mul_le_mul hu.2 hv.2
  have hm' : (u : Int) * (v : Int) = ((u * v : Nat) : Int) := by simp
  rw [sb_in (by omega), sb_in (by omega), ad_in (by omega), ad_in (by omega), hu.1, hv.1, ml_in (by rw [hm']; omega), hm']
  congr 1
  rw [decide_eq_decide]
  unfold Great
  rw [hc]; omega
section
variable {S : Type} (bd : S → Pt → Option (S ⊕ Empty)) (g : S → Pt → S) (P : Nat → S → Prop) (b : Bx) (N : Nat)
theorem fields_l2 (hb : RB b) (i : Int) (hi : b.1.1 / 256 ≤ i ∧ i ≤ b.2.1 / 256) (h : ∀ n s x, n < N → P n s → x ∈ cells b → bd s x = some (.inl (g s x)) ∧ P (n + 1) (g s x)) :
    ∀ (m : Nat) (k : Int) (s : S) (n : Nat), b.1.2 / 256 ≤ k → k + m = b.2.2 / 256 + 1 → n + m ≤ N → P n s →
      rows_fields_1_l2 (S ⊕ Empty) (yb bd) b i (k, .inl s) = some (.inl (ad i 1, .inl (((irange k m).map fun k => (i, k)).foldl g s))) ∧ P (n + m) (((irange k m).map fun k => (i, k)).foldl g s)
  | 0, k, s, n, h1, h2, h3, h4 => by
    refine ⟨loopO_inr ?_, h4⟩
    unfold rows_fields_1_b2
    rw [srK8, bind_some', decide_eq_false (by omega), if_neg (by decide)]; rfl
  | m + 1, k, s, n, h1, h2, h3, h4 => by
    have hmem : (i, k) ∈ cells b := mem_cells.2 ⟨hi.1, hi.2, h1, by simp only; omega⟩
    obtain ⟨e1, e2⟩ := h n s (i, k) (by omega) h4 hmem
    obtain ⟨hb1, hb2, hb3, hb4⟩ := hb
    have ih := fields_l2 ⟨hb1, hb2, hb3, hb4⟩ i hi h m (k + 1) (g s (i, k)) (n + 1) (by omega) (by omega) (by omega) e2
    unfold May at hb1 hb2
    refine ⟨?_, by rw [show n + (m + 1) = n + 1 + m by omega]; exact ih.2⟩
    have hs : rows_fields_1_b2 (S ⊕ Empty) (yb bd) b i k (.inl s) = some (.inl (k + 1, .inl (g s (i, k)))) := by
      unfold rows_fields_1_b2
      rw [srK8, bind_some', decide_eq_true (by omega), if_pos rfl, yb_go e1, bind_some', ad_in (by omega)]; rfl
    unfold rows_fields_1_l2
    rw [loopO_inl hs]
    exact ih.1
theorem fields_l1 (hb : RB b) (h : ∀ n s x, n < N → P n s → x ∈ cells b → bd s x = some (.inl (g s x)) ∧ P (n + 1) (g s x)) :
    ∀ (m : Nat) (i : Int) (s : S) (n : Nat), b.1.1 / 256 ≤ i → i + m = b.2.1 / 256 + 1 → n + m * (b.2.2 / 256 - b.1.2 / 256 + 1).toNat ≤ N → P n s →
      rows_fields_1_l1 (S ⊕ Empty) (yb bd) b (i, .inl s) = some (.inl (((irange i m).flatMap (rowC b)).foldl g s)) ∧ P (n + m * (b.2.2 / 256 - b.1.2 / 256 + 1).toNat) (((irange i m).flatMap (rowC b)).foldl g s)
  | 0, i, s, n, h1, h2, h3, h4 => by
    refine ⟨loopO_inr ?_, by simpa [irange] using h4⟩
    unfold rows_fields_1_b1
    rw [srK8, bind_some', decide_eq_false (by omega), if_neg (by decide)]; rfl
  | m + 1, i, s, n, h1, h2, h3, h4 => by
    have hb' := hb
    obtain ⟨hb1, hb2, hb3, hb4⟩ := hb'
    have h3' : n + (b.2.2 / 256 - b.1.2 / 256 + 1).toNat + m * (b.2.2 / 256 - b.1.2 / 256 + 1).toNat ≤ N := by rw [Nat.add_mul] at h3; omega
    obtain ⟨f1, f2⟩ := fields_l2 bd g P b N hb i ⟨h1, by omega⟩ h (b.2.2 / 256 - b.1.2 / 256 + 1).toNat (b.1.2 / 256) s n (Int.le_refl _) (by omega) (by omega) h4
    have ih := fields_l1 hb h m (i + 1) (((irange (b.1.2 / 256) (b.2.2 / 256 - b.1.2 / 256 + 1).toNat).map fun k => (i, k)).foldl g s) (n + (b.2.2 / 256 - b.1.2 / 256 + 1).toNat) (by omega) (by omega) h3' f2
    unfold May at hb1 hb2
    have hs : rows_fields_1_b1 (S ⊕ Empty) (yb bd) b i (.inl s) = some (.inl (i + 1, .inl (((irange (b.1.2 / 256) (b.2.2 / 256 - b.1.2 / 256 + 1).toNat).map fun k => (i, k)).foldl g s))) := by
      unfold rows_fields_1_b1
      rw [srK8, bind_some', decide_eq_true (by omega), if_pos rfl, srK8, bind_some', f1, ad_in (by omega)]
    have e : (irange i (m + 1)).flatMap (rowC b) = rowC b i ++ (irange (i + 1) m).flatMap (rowC b) := by simp [irange]
    rw [e, List.foldl_append]
    refine ⟨?_, by rw [Nat.add_mul, Nat.one_mul, show n + (m * (b.2.2 / 256 - b.1.2 / 256 + 1).toNat + (b.2.2 / 256 - b.1.2 / 256 + 1).toNat) = n + (b.2.2 / 256 - b.1.2 / 256 + 1).toNat + m * (b.2.2 / 256 - b.1.2 / 256 + 1).toNat by omega]; exact ih.2⟩
    unfold rows_fields_1_l1
    rw [loopO_inl hs]
    exact ih.1
theorem each_eq (hb : RB b) (s : S) (h0 : P 0 s) (h : ∀ n s x, n < (cells b).length → P n s → x ∈ cells b → bd s x = some (.inl (g s x)) ∧ P (n + 1) (g s x)) :
    rows_fields_1 (S ⊕ Empty) (yb bd) (.inl s) b = some (.inl ((cells b).foldl g s)) ∧ P (cells b).length ((cells b).foldl g s) := by
  have hc := cells_len b
  obtain ⟨f1, f2⟩ := fields_l1 bd g P b (cells b).length hb h (b.2.1 / 256 - b.1.1 / 256 + 1).toNat (b.1.1 / 256) s 0 (Int.le_refl _) (by have := hb.2.2.1; omega) (by rw [hc]; omega) h0
  rw [Nat.zero_add, ← hc] at f2
  refine ⟨?_, f2⟩
  unfold rows_fields_1
  rw [srK8, bind_some']
  exact f1
end
abbrev Idx := List Bx × List (Pt × List Int) × List Int
def putF (n : Int) (D : List (Pt × List Int)) (f : Pt) : List (Pt × List Int) := upM D f ((lkM D f).getD [] ++ [n])
def addB (x : Idx) (b : Bx) : Idx := (x.1 ++ [b], if RB b then (if Great b then (x.2.1, x.2.2 ++ [(x.1.length : Int)]) else ((cells b).foldl (putF (x.1.length : Int)) x.2.1, x.2.2)) else (x.2.1, x.2.2))
theorem putF_lk (n : Int) (D : List (Pt × List Int)) (f h : Pt) : (lkM (putF n D f) h).getD [] = (lkM D h).getD [] ++ (if h = f then [n] else []) := by
  unfold putF
  rw [lk_up]
  split
  · rename_i e; rw [e]; rfl
  · simp
theorem fold_lk (n : Int) (h : Pt) : ∀ (l : List Pt) (D : List (Pt × List Int)), (∀ v, v ∈ (lkM (l.foldl (putF n) D) h).getD [] ↔ v ∈ (lkM D h).getD [] ∨ (h ∈ l ∧ v = n)) ∧ ((lkM (l.foldl (putF n) D) h).getD []).length ≤ ((lkM D h).getD []).length + l.length
  | [], D => ⟨fun v => by simp, by simp⟩
  | f :: l, D => by
    obtain ⟨i1, i2⟩ := fold_lk n h l (putF n D f)
    rw [List.foldl_cons]
    rw [putF_lk] at i1 i2
    refine ⟨fun v => ?_, ?_⟩
    · rw [i1 v, List.mem_append, List.mem_cons]
      by_cases e : h = f
      · rw [if_pos e, List.mem_singleton]
        constructor
        · rintro ((h1 | h1) | h1)
          · exact .inl h1
          · exact .inr ⟨.inl e, h1⟩
          · exact .inr ⟨.inr h1.1, h1.2⟩
        · rintro (h1 | h1)
          · exact .inl (.inl h1)
          · exact .inl (.inr h1.2)
      · rw [if_neg e]
        constructor
        · rintro ((h1 | h1) | h1)
          · exact .inl h1
          · cases h1
          · exact .inr ⟨.inr h1.1, h1.2⟩
        · rintro (h1 | ⟨h1 | h1, h2⟩)
          · exact .inl (.inl h1)
          · exact (e h1).elim
          · exact .inr ⟨h1, h2⟩
    · have : (if h = f then [n] else ([] : List Int)).length ≤ 1 := by split <;> simp
      rw [List.length_append] at i2
      simp only [List.length_cons]; omega
structure Inv (x : Idx) (l : List Bx) : Prop where
  all : x.1 = l
  great : ∀ v : Int, v ∈ x.2.2 ↔ ∃ i : Nat, v = (i : Int) ∧ i < l.length ∧ RB (l.getD i default) ∧ Great (l.getD i default)
  glen : x.2.2.length ≤ l.length
  flds : ∀ (f : Pt) (v : Int), v ∈ (lkM x.2.1 f).getD [] ↔ ∃ i : Nat, v = (i : Int) ∧ i < l.length ∧ RB (l.getD i default) ∧ ¬ Great (l.getD i default) ∧ f ∈ cells (l.getD i default)
  flen : ∀ f : Pt, ((lkM x.2.1 f).getD []).length ≤ 64 * l.length
theorem Inv.nil : Inv ([], [], []) [] := ⟨rfl, fun v => by simp, by simp, fun f v => by simp [lkM], fun f => by simp [lkM]⟩
theorem snoc_iff (l : List Bx) (b : Bx) (Q : Nat → Bx → Prop) : (∃ i : Nat, i < (l ++ [b]).length ∧ Q i ((l ++ [b]).getD i default)) ↔ (∃ i : Nat, i < l.length ∧ Q i (l.getD i default)) ∨ Q l.length b := by
  have e : (l ++ [b]).getD l.length default = b := by rw [getD_append_right (Nat.le_refl _)]; simp
  constructor
  · rintro ⟨i, hi, h⟩
    rw [List.length_append, List.length_singleton] at hi
    rcases Nat.lt_or_ge i l.length with hlt | hge
    · rw [getD_append_left hlt] at h; exact .inl ⟨i, hlt, h⟩
    · have : i = l.length := by omega
      subst this
      rw [e] at h; exact .inr h
  · rintro (⟨i, hi, h⟩ | h)
    · exact ⟨i, by rw [List.length_append]; omega, by rw [getD_append_left hi]; exact h⟩
    · exact ⟨l.length, by simp, by rw [e]; exact h⟩
theorem Inv.add {x : Idx} {l : List Bx} (h : Inv x l) (b : Bx) : Inv (addB x b) (l ++ [b]) := by
  have hl : (x.1.length : Int) = (l.length : Int) := by rw [h.all]
  have hx : ∀ v : Int, (∃ i : Nat, v = (i : Int) ∧ i < (l ++ [b]).length ∧ RB ((l ++ [b]).getD i default) ∧ Great ((l ++ [b]).getD i default)) ↔ (∃ i : Nat, v = (i : Int) ∧ i < l.length ∧ RB (l.getD i default) ∧ Great (l.getD i default)) ∨ (v = (l.length : Int) ∧ RB b ∧ Great b) := fun v => by
    have := snoc_iff l b (fun i c => v = (i : Int) ∧ RB c ∧ Great c)
    constructor
    · rintro ⟨i, h1, h2, h3⟩
      rcases this.1 ⟨i, h2, h1, h3⟩ with ⟨i, h1, h2, h3⟩ | h
      · exact .inl ⟨i, h2, h1, h3⟩
      · exact .inr h
    · rintro (⟨i, h1, h2, h3⟩ | h)
      · obtain ⟨i, h1, h2, h3⟩ := this.2 (.inl ⟨i, h2, h1, h3⟩)
        exact ⟨i, h2, h1, h3⟩
      · obtain ⟨i, h1, h2, h3⟩ := this.2 (.inr h)
        exact ⟨i, h2, h1, h3⟩
  have hy : ∀ (f : Pt) (v : Int), (∃ i : Nat, v = (i : Int) ∧ i < (l ++ [b]).length ∧ RB ((l ++ [b]).getD i default) ∧ ¬ Great ((l ++ [b]).getD i default) ∧ f ∈ cells ((l ++ [b]).getD i default)) ↔ (∃ i : Nat, v = (i : Int) ∧ i < l.length ∧ RB (l.getD i default) ∧ ¬ Great (l.getD i default) ∧ f ∈ cells (l.getD i default)) ∨ (v = (l.length : Int) ∧ RB b ∧ ¬ Great b ∧ f ∈ cells b) := fun f v => by
    have := snoc_iff l b (fun i c => v = (i : Int) ∧ RB c ∧ ¬ Great c ∧ f ∈ cells c)
    constructor
    · rintro ⟨i, h1, h2, h3⟩
      rcases this.1 ⟨i, h2, h1, h3⟩ with ⟨i, h1, h2, h3⟩ | h
      · exact .inl ⟨i, h2, h1, h3⟩
      · exact .inr h
    · rintro (⟨i, h1, h2, h3⟩ | h)
      · obtain ⟨i, h1, h2, h3⟩ := this.2 (.inl ⟨i, h2, h1, h3⟩)
        exact ⟨i, h2, h1, h3⟩
      · obtain ⟨i, h1, h2, h3⟩ := this.2 (.inr h)
        exact ⟨i, h2, h1, h3⟩
  have hlen : (l ++ [b]).length = l.length + 1 := by simp
  have hfl : ∀ f, ((lkM x.2.1 f).getD []).length ≤ 64 * (l ++ [b]).length := fun f => by have := h.flen f; rw [hlen]; omega
  unfold addB
  by_cases hr : RB b
  · rw [if_pos hr]
    by_cases hg : Great b
    · rw [if_pos hg]
      refine ⟨by simp only; rw [h.all], fun v => ?_, by simp only [List.length_append]; have := h.glen; simp; omega, fun f v => ?_, hfl⟩
      · simp only [List.mem_append, List.mem_singleton]
        rw [hx, h.great, hl]
        constructor
        · rintro (h1 | h1)
          · exact .inl h1
          · exact .inr ⟨h1, hr, hg⟩
        · rintro (h1 | h1)
          · exact .inl h1
          · exact .inr h1.1
      · rw [hy]
        simp only
        rw [h.flds]
        exact ⟨.inl, fun h1 => h1.elim id fun h2 => (h2.2.2.1 hg).elim⟩
    · rw [if_neg hg]
      refine ⟨by simp only; rw [h.all], fun v => ?_, by simp only; have := h.glen; omega, fun f v => ?_, fun f => ?_⟩
      · simp only
        rw [hx, h.great]
        exact ⟨.inl, fun h1 => h1.elim id fun h2 => (hg h2.2.2).elim⟩
      · simp only
        rw [hy, (fold_lk _ f (cells b) x.2.1).1 v, h.flds, hl]
        constructor
        · rintro (h1 | h1)
          · exact .inl h1
          · exact .inr ⟨h1.2, hr, hg, h1.1⟩
        · rintro (h1 | h1)
          · exact .inl h1
          · exact .inr ⟨h1.2.2.2, h1.1⟩
      · simp only
        have h1 := (fold_lk (x.1.length : Int) f (cells b) x.2.1).2
        have h2 := h.flen f
        unfold Great at hg
        rw [hlen]; omega
  · rw [if_neg hr]
    refine ⟨by simp only; rw [h.all], fun v => ?_, by simp only; have := h.glen; omega, fun f v => ?_, hfl⟩
    · simp only
      rw [hx, h.great]
      exact ⟨.inl, fun h1 => h1.elim id fun h2 => (hr h2.2.1).elim⟩
    · rw [hy]
      simp only
      rw [h.flds]
      exact ⟨.inl, fun h1 => h1.elim id fun h2 => (hr h2.2.1).elim⟩
def build (x : Idx) (l : List Bx) : Idx := l.foldl addB x
theorem Inv.build {x : Idx} {l : List Bx} (h : Inv x l) : ∀ (m : List Bx), Inv (build x m) (l ++ m)
  | [] => by simpa [Pl.build] using h
  | b :: m => by
    have := Inv.build (h.add b) m
    rw [List.append_assoc] at this
    exact this
end Go.Proofs.Ytoccfdohlefifaa.Pl
