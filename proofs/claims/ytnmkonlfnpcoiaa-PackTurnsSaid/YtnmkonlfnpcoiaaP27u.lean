import Derived.Test.YtnmkonlfnpcoiaaP27t
namespace Go.Proofs.Ytnmkonlfnpcoiaa.Pl
open Go.Proofs.Ytnmkonlfnpcoiaa Go.Sort
set_option linter.unusedVariables false
section
variable {α : Type} [Inhabited α] {lt : α → α → Bool} {lf : List α → Int → Int → Option Bool}
theorem shiftDown_size : ∀ (j : Nat) (d : Array α), (shiftDown lt j d).size = d.size
  | 0, d => rfl
  | j + 1, d => by
    rw [shiftDown]
    split
    · rfl
    · rw [shiftDown_size j, swp_size]
theorem shiftUp_size (b : Nat) : ∀ (n j : Nat) (d : Array α), b - j ≤ n → (shiftUp lt b j d).size = d.size := by
  intro n
  induction n with
  | zero => intro j d hn; rw [shiftUp, if_neg (by omega)]
  | succ n ih =>
    intro j d hn
    rw [shiftUp]
    split
    · split
      · rfl
      · rw [ih _ _ (by omega), swp_size]
    · rfl
theorem shU (hL : LfA lt lf) {b : Nat} {s i : Int} : ∀ (n j : Nat) (d : Array α), b - j ≤ n → 1 ≤ j → b ≤ d.size → d.size < 1000000000 → j ≤ d.size + 1 →
    sort_partialInsertionSort_func_l6 α lf b s i ((j : Int), d.toList) = some (.inl (i, ad s 1, (shiftUp lt b j d).toList)) := by
  intro n
  induction n with
  | zero =>
    intro j d hn h1 hb hd hj
    refine loopO_inr ?_
    show sort_partialInsertionSort_func_b6 α lf b s i (j : Int) d.toList = _
    unfold sort_partialInsertionSort_func_b6
    rw [show shiftUp lt b j d = d from by rw [shiftUp, if_neg (by omega)], show decide ((j : Int) < (b : Int)) = false from by simp only [decide_eq_false_iff_not]; omega]
    rfl
  | succ n ih =>
    intro j d hn h1 hb hd hj
    by_cases hc : j < b
    · have e1 : sb (j : Int) 1 = ((j - 1 : Nat) : Int) := by rw [sbn (by omega) (by omega) (by omega) (by omega)]; omega
      have ht : decide ((j : Int) < (b : Int)) = true := by simp only [decide_eq_true_eq]; omega
      by_cases hx : lt d[j]! d[j - 1]! = true
      · refine (loopO_inl (s' := (((j + 1 : Nat) : Int), (swp d j (j - 1)).toList)) ?_).trans ((ih (j + 1) (swp d j (j - 1)) (by omega) (by omega) (by rw [swp_size]; exact hb) (by rw [swp_size]; exact hd) (by rw [swp_size]; omega)).trans ?_)
        · show sort_partialInsertionSort_func_b6 α lf b s i (j : Int) d.toList = _
          unfold sort_partialInsertionSort_func_b6
          rw [ht, if_pos rfl, e1, hL.at j (j - 1) rfl rfl (by omega) (by omega), bind_some', hx, swO_at j (j - 1) rfl rfl (by omega) (by omega), adn (by omega) (by omega) (by omega) (by omega)]
          rfl
        · rw [show shiftUp lt b j d = shiftUp lt b (j + 1) (swp d j (j - 1)) from by conv => lhs; rw [shiftUp, if_pos hc]; simp [hx]]
      · have hx : lt d[j]! d[j - 1]! = false := by simpa using hx
        refine loopO_inr ?_
        show sort_partialInsertionSort_func_b6 α lf b s i (j : Int) d.toList = _
        unfold sort_partialInsertionSort_func_b6
        rw [show shiftUp lt b j d = d from by rw [shiftUp, if_pos hc]; simp [hx], ht, if_pos rfl, e1, hL.at j (j - 1) rfl rfl (by omega) (by omega), bind_some', hx]
        rfl
    · refine loopO_inr ?_
      show sort_partialInsertionSort_func_b6 α lf b s i (j : Int) d.toList = _
      unfold sort_partialInsertionSort_func_b6
      rw [show shiftUp lt b j d = d from by rw [shiftUp, if_neg hc], show decide ((j : Int) < (b : Int)) = false from by simp only [decide_eq_false_iff_not]; omega]
      rfl
theorem shD (hL : LfA lt lf) {b : Nat} {s i : Int} : ∀ (j : Nat) (d : Array α), j < d.size → d.size < 1000000000 →
    sort_partialInsertionSort_func_l8 α lf b s i ((j : Int), d.toList) = sort_partialInsertionSort_func_k4 α lf b s i (shiftDown lt j d).toList := by
  intro j
  induction j with
  | zero =>
    intro d hj hd
    refine loopO_map ?_
    show sort_partialInsertionSort_func_b8 α lf b s i ((0 : Nat) : Int) d.toList = _
    unfold sort_partialInsertionSort_func_b8
    rfl
  | succ j ih =>
    intro d hj hd
    have e1 : sb ((j + 1 : Nat) : Int) 1 = (j : Int) := by rw [sbn (by omega) (by omega) (by omega) (by omega)]; omega
    have ht : decide (1 ≤ ((j + 1 : Nat) : Int)) = true := by simp only [decide_eq_true_eq]; omega
    by_cases hx : lt d[j + 1]! d[j]! = true
    · refine (loopO_inl (s' := ((j : Int), (swp d (j + 1) j).toList)) ?_).trans ((ih (swp d (j + 1) j) (by rw [swp_size]; omega) (by rw [swp_size]; exact hd)).trans ?_)
      · show sort_partialInsertionSort_func_b8 α lf b s i ((j + 1 : Nat) : Int) d.toList = _
        unfold sort_partialInsertionSort_func_b8
        rw [ht, if_pos rfl, e1, hL.at (j + 1) j rfl rfl (by omega) (by omega), bind_some', hx, swO_at (j + 1) j rfl rfl (by omega) (by omega)]
        rfl
      · rw [show shiftDown lt (j + 1) d = shiftDown lt j (swp d (j + 1) j) from by conv => lhs; rw [shiftDown]; simp [hx]]
    · have hx : lt d[j + 1]! d[j]! = false := by simpa using hx
      refine loopO_map ?_
      show sort_partialInsertionSort_func_b8 α lf b s i ((j + 1 : Nat) : Int) d.toList = _
      unfold sort_partialInsertionSort_func_b8
      rw [show shiftDown lt (j + 1) d = d from by rw [shiftDown]; simp [hx], ht, if_pos rfl, e1, hL.at (j + 1) j rfl rfl (by omega) (by omega), bind_some', hx]
      rfl
theorem scanS (hL : LfA lt lf) {a b : Nat} {s : Int} {d : Array α} (hb : b ≤ d.size) (hd : d.size < 1000000000) {K : Nat → Option ((Int × Int × (List α)) ⊕ (Bool × (List α)))}
    (hK : ∀ i : Nat, 1 ≤ i → i ≤ b → (if decide ((i : Int) = (b : Int)) then (Option.map Sum.inr (some (true, d.toList))) else (if decide ((sb b a) < 50) then (Option.map Sum.inr (some (false, d.toList))) else ((swO d.toList i (sb i 1)).bind fun l7958 => if decide (2 ≤ (sb i a)) then (sort_partialInsertionSort_func_l8 α lf b s i (sb i 1, l7958)) else (sort_partialInsertionSort_func_k4 α lf b s i l7958)))) = K i) :
    ∀ (n i : Nat), b - i = n → 1 ≤ i → i ≤ b → sort_partialInsertionSort_func_l3 α lf a b s d.toList (i : Int) = K (scanSorted lt d b i) := by
  intro n
  have body : ∀ i : Nat, 1 ≤ i → i ≤ b → sort_partialInsertionSort_func_b3 α lf a b s d.toList (i : Int) = if decide (i < b) && !lt d[i]! d[i - 1]! then some (.inl ((i + 1 : Nat) : Int)) else (K i).map Sum.inr := by
    intro i h1 h2
    unfold sort_partialInsertionSort_func_b3
    have e1 : sb (i : Int) 1 = ((i - 1 : Nat) : Int) := by rw [sbn (by omega) (by omega) (by omega) (by omega)]; omega
    have hk := hK i h1 h2
    rw [e1] at hk ⊢
    by_cases hc : i < b
    · have ht : decide ((i : Int) < (b : Int)) = true := by simp only [decide_eq_true_eq]; omega
      rw [gdt ht, hL.at i (i - 1) rfl rfl (by omega) (by omega), bind_some', ht, show decide (i < b) = true from by simpa using hc, hk, adn (by omega) (by omega) (by omega) (by omega)]
      rfl
    · have ht : decide ((i : Int) < (b : Int)) = false := by simp only [decide_eq_false_iff_not]; omega
      rw [gdf ht, bind_some', ht, show decide (i < b) = false from by simpa using hc, hk]
      rfl
  induction n with
  | zero =>
    intro i hn h1 h2
    rw [show scanSorted lt d b i = i from by rw [scanSorted, if_neg (by simp; omega)]]
    exact loopO_map ((body i h1 h2).trans (by rw [if_neg (by simp; omega)]))
  | succ n ih =>
    intro i hn h1 h2
    by_cases hc : (decide (i < b) && !lt d[i]! d[i - 1]!) = true
    · rw [show scanSorted lt d b i = scanSorted lt d b (i + 1) from by conv => lhs; rw [scanSorted, if_pos hc]]
      exact (loopO_inl ((body i h1 h2).trans (if_pos hc))).trans (ih (i + 1) (by omega) (by omega) (by omega))
    · rw [show scanSorted lt d b i = i from by rw [scanSorted, if_neg hc]]
      exact loopO_map ((body i h1 h2).trans (if_neg hc))
theorem scanS_rng (d : Array α) (b : Nat) : ∀ (n i : Nat), b - i = n → i ≤ b → i ≤ scanSorted lt d b i ∧ scanSorted lt d b i ≤ b := by
  intro n
  induction n with
  | zero => intro i hn hi; rw [scanSorted, if_neg (by simp; omega)]; omega
  | succ n ih =>
    intro i hn hi
    rw [scanSorted]
    split
    · have := ih (i + 1) (by omega) (by omega); omega
    · omega
theorem pins_eq (hL : LfA lt lf) {a b : Nat} (hab : a < b) : ∀ (s i : Nat) (d : Array α), s ≤ 5 → a < i → i ≤ b → b ≤ d.size → d.size < 1000000000 →
    sort_partialInsertionSort_func_l1 α lf a b ((i : Int), ((5 - s : Nat) : Int), d.toList) = some ((partialIns lt a b s i d).2, (partialIns lt a b s i d).1.toList) := by
  intro s
  induction s with
  | zero =>
    intro i d hs hi hib hb hd
    refine loopO_inr ?_
    show sort_partialInsertionSort_func_b1 α lf a b (i : Int) ((5 : Nat) : Int) d.toList = _
    unfold sort_partialInsertionSort_func_b1
    rfl
  | succ s ih =>
    intro i d hs hi hib hb hd
    have hr := scanS_rng (lt := lt) d b _ i rfl hib
    have e0 : sb (b : Int) (a : Int) = ((b - a : Nat) : Int) := by rw [sbn (by omega) (by omega) (by omega) (by omega)]; omega
    have bd : sort_partialInsertionSort_func_b1 α lf a b (i : Int) ((5 - (s + 1) : Nat) : Int) d.toList = sort_partialInsertionSort_func_l3 α lf a b ((5 - (s + 1) : Nat) : Int) d.toList (i : Int) := by
      unfold sort_partialInsertionSort_func_b1
      rw [show decide (((5 - (s + 1) : Nat) : Int) < 5) = true from by simp only [decide_eq_true_eq]; omega, if_pos rfl]
    rw [scanS hL hb hd (fun i h1 h2 => rfl) _ i rfl (by omega) hib] at bd
    rw [partialIns]
    generalize scanSorted lt d b i = j at hr bd ⊢
    by_cases hj : j = b
    · rw [if_pos hj]
      rw [show decide ((j : Int) = (b : Int)) = true from by simp [hj]] at bd
      exact loopO_inr bd
    · rw [if_neg hj]
      rw [show decide ((j : Int) = (b : Int)) = false from by simp only [decide_eq_false_iff_not]; omega, e0] at bd
      simp only [Bool.false_eq_true, if_false] at bd
      by_cases h5 : b - a < 50
      · rw [if_pos h5]
        rw [show decide (((b - a : Nat) : Int) < 50) = true from by simp only [decide_eq_true_eq]; omega] at bd
        exact loopO_inr bd
      · rw [if_neg h5]
        rw [show decide (((b - a : Nat) : Int) < 50) = false from by simp only [decide_eq_false_iff_not]; omega] at bd
        simp only [Bool.false_eq_true, if_false] at bd
        have e1 : sb (j : Int) 1 = ((j - 1 : Nat) : Int) := by rw [sbn (by omega) (by omega) (by omega) (by omega)]; omega
        have e2 : sb (j : Int) (a : Int) = ((j - a : Nat) : Int) := by rw [sbn (by omega) (by omega) (by omega) (by omega)]; omega
        have e3 : sb (b : Int) (j : Int) = ((b - j : Nat) : Int) := by rw [sbn (by omega) (by omega) (by omega) (by omega)]; omega
        have e4 : ad ((5 - (s + 1) : Nat) : Int) 1 = ((5 - s : Nat) : Int) := by rw [adn (by omega) (by omega) (by omega) (by omega)]; omega
        have e5 : ad (j : Int) 1 = ((j + 1 : Nat) : Int) := by rw [adn (by omega) (by omega) (by omega) (by omega)]; omega
        rw [e1, swO_at j (j - 1) rfl rfl (by omega) (by omega), bind_some', e2] at bd
        have s1 : (swp d j (j - 1)).size = d.size := swp_size _ _ _
        generalize swp d j (j - 1) = D at bd s1 ⊢
        have k4 : ∀ D : Array α, D.size = d.size → sort_partialInsertionSort_func_k4 α lf b ((5 - (s + 1) : Nat) : Int) (j : Int) D.toList = some (.inl ((j : Int), ((5 - s : Nat) : Int), (if b - j ≥ 2 then shiftUp lt b (j + 1) D else D).toList)) := by
          intro D hD
          unfold sort_partialInsertionSort_func_k4
          rw [e3]
          by_cases h2 : b - j ≥ 2
          · rw [show decide (2 ≤ ((b - j : Nat) : Int)) = true from by simp only [decide_eq_true_eq]; omega, if_pos rfl, e5, shU hL _ (j + 1) D (Nat.le_refl _) (by omega) (by omega) (by omega) (by omega), if_pos h2, e4]
          · rw [show decide (2 ≤ ((b - j : Nat) : Int)) = false from by simp only [decide_eq_false_iff_not]; omega, if_neg h2]
            simp only [Bool.false_eq_true, if_false]
            unfold sort_partialInsertionSort_func_k2
            rw [e4]
        have fin : ∀ D2 : Array α, D2.size = d.size → sort_partialInsertionSort_func_b1 α lf a b (i : Int) ((5 - (s + 1) : Nat) : Int) d.toList = sort_partialInsertionSort_func_k4 α lf b ((5 - (s + 1) : Nat) : Int) (j : Int) D2.toList →
            sort_partialInsertionSort_func_l1 α lf a b ((i : Int), ((5 - (s + 1) : Nat) : Int), d.toList) = some ((partialIns lt a b s j (if b - j ≥ 2 then shiftUp lt b (j + 1) D2 else D2)).2, (partialIns lt a b s j (if b - j ≥ 2 then shiftUp lt b (j + 1) D2 else D2)).1.toList) := by
          intro D2 hD2 hb2
          rw [k4 D2 hD2] at hb2
          have sz : (if b - j ≥ 2 then shiftUp lt b (j + 1) D2 else D2).size = d.size := by
            split
            · rw [shiftUp_size b _ _ _ (Nat.le_refl _), hD2]
            · exact hD2
          exact (loopO_inl hb2).trans (ih j _ (by omega) (by omega) (by omega) (by omega) (by omega))
        by_cases h2 : j - a ≥ 2
        · rw [show decide (2 ≤ ((j - a : Nat) : Int)) = true from by simp only [decide_eq_true_eq]; omega, if_pos rfl, shD hL (j - 1) D (by omega) (by omega)] at bd
          simp only [if_pos h2]
          exact fin _ (by rw [shiftDown_size, s1]) bd
        · rw [show decide (2 ≤ ((j - a : Nat) : Int)) = false from by simp only [decide_eq_false_iff_not]; omega] at bd
          simp only [Bool.false_eq_true, if_false] at bd
          simp only [if_neg h2]
          exact fin _ s1 bd
theorem pinsert_eq (hL : LfA lt lf) {a b : Nat} {d : Array α} (hab : a < b) (hb : b ≤ d.size) (hd : d.size < 1000000000) :
    sort_partialInsertionSort_func α lf d.toList a b = some ((partialInsertionSort lt d a b).2, (partialInsertionSort lt d a b).1.toList) := by
  unfold sort_partialInsertionSort_func partialInsertionSort
  rw [adn (by omega) (by omega) (by omega) (by omega)]
  exact pins_eq hL hab 5 (a + 1) d (by omega) (by omega) (by omega) hb hd
end
end Go.Proofs.Ytnmkonlfnpcoiaa.Pl
