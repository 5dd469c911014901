import Derived.Test.YtnmkonlfnpcoiaaP27s
namespace Go.Proofs.Ytnmkonlfnpcoiaa.Pl
open Go.Proofs.Ytnmkonlfnpcoiaa Go.Sort
set_option linter.unusedVariables false
theorem loopO_map {S R : Type} {body : S → Option (S ⊕ R)} {s : S} {x : Option R} (h : body s = Option.map Sum.inr x) : loopO body s = x := by
  cases x with
  | none => rw [loopO_eq, h]; rfl
  | some r => exact loopO_inr h
theorem scan_up {R : Type} {α : Type} [Inhabited α] {body : Int → Option (Int ⊕ R)} {K : Nat → Option R} {p : α → Bool} {d : Array α} {j lo : Nat}
    (h : ∀ i : Nat, lo ≤ i → i ≤ j + 2 → body i = if decide (i ≤ j) && p d[i]! then some (.inl ((i + 1 : Nat) : Int)) else (K i).map Sum.inr) :
    ∀ (n i : Nat), j + 1 - i = n → lo ≤ i → i ≤ j + 2 → loopO body i = K (scanUp p d j i) := by
  intro n
  induction n with
  | zero =>
    intro i hn hl hi
    have := h i hl hi
    rw [show decide (i ≤ j) = false from by simp only [decide_eq_false_iff_not]; omega] at this
    rw [loopO_map (x := K i) (by simpa using this), scanUp, if_neg (by simp; omega)]
  | succ n ih =>
    intro i hn hl hi
    have := h i hl hi
    by_cases hc : (decide (i ≤ j) && p d[i]!) = true
    · rw [if_pos hc] at this
      have hij : i ≤ j := by simp at hc; exact hc.1
      rw [loopO_inl this, ih (i + 1) (by omega) (by omega) (by omega)]
      conv => rhs; rw [scanUp, if_pos (by simpa using hc)]
    · rw [if_neg hc] at this
      rw [loopO_map this, scanUp, if_neg (by simpa using hc)]
theorem scan_down {R : Type} {α : Type} [Inhabited α] {body : Int → Option (Int ⊕ R)} {K : Nat → Option R} {p : α → Bool} {d : Array α} {i hi : Nat} (h1 : 1 ≤ i)
    (h : ∀ j : Nat, j ≤ hi → body j = if decide (i ≤ j) && p d[j]! then some (.inl ((j - 1 : Nat) : Int)) else (K j).map Sum.inr) :
    ∀ (j : Nat), j ≤ hi → loopO body j = K (scanDown p d i j) := by
  intro j
  induction j with
  | zero =>
    intro hj
    have := h 0 hj
    rw [show decide (i ≤ 0) = false from by simp only [decide_eq_false_iff_not]; omega] at this
    rw [show scanDown p d i 0 = 0 from rfl]
    exact loopO_map (by simpa using this)
  | succ j ih =>
    intro hj
    have := h (j + 1) hj
    by_cases hc : (decide (i ≤ j + 1) && p d[j + 1]!) = true
    · rw [if_pos hc] at this
      rw [loopO_inl this, Nat.add_sub_cancel, ih (by omega)]
      conv => rhs; rw [scanDown, if_pos (by simpa using hc)]
    · rw [if_neg hc] at this
      rw [loopO_map this, scanDown, if_neg (by simpa using hc)]
theorem dle (a b : Nat) : decide ((a : Int) ≤ (b : Int)) = decide (a ≤ b) := by
  by_cases h : a ≤ b
  · simp [h]
  · simp [h]
section
variable {α : Type} [Inhabited α] {lt : α → α → Bool} {lf : List α → Int → Int → Option Bool}
theorem gd_ifT {β : Type} {c v : Bool} {o : Option Bool} {A B : Option β} (h : c = true → o = some v) : ((gd c o false).bind fun b => if (c && b) = true then A else B) = if (c && v) = true then A else B := by
  cases c with
  | false => rfl
  | true => rw [gdt rfl, h rfl]; rfl
theorem gd_ifF {β : Type} {c v : Bool} {o : Option Bool} {A B : Option β} (h : c = true → o = some v) : ((gd c o false).bind fun b => if (c && !b) = true then A else B) = if (c && !v) = true then A else B := by
  cases c with
  | false => rfl
  | true => rw [gdt rfl, h rfl]; rfl
theorem scanUp_le (p : α → Bool) (d : Array α) (j : Nat) : ∀ (n i : Nat), j + 1 - i = n → i ≤ j + 2 → scanUp p d j i ≤ j + 2 := by
  intro n
  induction n with
  | zero => intro i hn hi; rw [scanUp, if_neg (by simp; omega)]; exact hi
  | succ n ih =>
    intro i hn hi
    rw [scanUp]
    split
    · exact ih (i + 1) (by omega) (by omega)
    · exact hi
theorem partEqB (hL : LfA lt lf) {a i j : Nat} {d : Array α} (ha : a < i) (haz : a < d.size) (hij : i ≤ j + 2) (hj : j < d.size) (hd : d.size < 1000000000) :
    sort_partitionEqual_func_b1 α lf a (i : Int) (j : Int) d.toList =
      let i2 := scanUp (fun x => !lt d[a]! x) d j i
      let j2 := scanDown (fun x => lt d[a]! x) d i2 j
      if i2 > j2 then some (.inr ((i2 : Int), d.toList)) else some (.inl (((i2 + 1 : Nat) : Int), ((j2 - 1 : Nat) : Int), (swp d i2 j2).toList)) := by
  show loopO (fun s => sort_partitionEqual_func_b2 α lf a (j : Int) d.toList s) (i : Int) = _
  have i2le := scanUp_le (fun x => !lt d[a]! x) d j _ i rfl hij
  have i2ge := scanUp_ge (fun x => !lt d[a]! x) d j i
  rw [scan_up (K := fun i2 => sort_partitionEqual_func_l3 α lf a d.toList (i2 : Int) (j : Int)) (p := fun x => !lt d[a]! x) (d := d) (j := j) (lo := i) ?_ _ i rfl (Nat.le_refl _) hij]
  · generalize scanUp (fun x => !lt d[a]! x) d j i = i2 at i2le i2ge
    show loopO (fun s => sort_partitionEqual_func_b3 α lf a d.toList (i2 : Int) s) (j : Int) = _
    have j2le := scanDown_le (fun x => lt d[a]! x) d i2 j
    rw [scan_down (K := fun j2 => if i2 > j2 then some (.inr ((i2 : Int), d.toList)) else some (.inl (((i2 + 1 : Nat) : Int), ((j2 - 1 : Nat) : Int), (swp d i2 j2).toList))) (p := fun x => lt d[a]! x) (d := d) (i := i2) (hi := j) (by omega) ?_ j (Nat.le_refl _)]
    intro q hq
    unfold sort_partitionEqual_func_b3
    rw [gd_ifT (v := lt d[a]! d[q]!) (fun _ => hL.at a q rfl rfl (by omega) (by omega)), dle]
    split
    · rename_i hc
      have : i2 ≤ q := by simp at hc; exact hc.1
      rw [sbn (by omega) (by omega) (by omega) (by omega)]
      congr 2; omega
    · by_cases hc : i2 > q
      · rw [if_pos hc, show decide ((q : Int) < (i2 : Int)) = true from by simp only [decide_eq_true_eq]; omega]; rfl
      · rw [if_neg hc, show decide ((q : Int) < (i2 : Int)) = false from by simp only [decide_eq_false_iff_not]; omega]
        simp only [Bool.false_eq_true, if_false]
        rw [swO_at i2 q rfl rfl (by omega) (by omega), bind_some', adn (by omega) (by omega) (by omega) (by omega), sbn (by omega) (by omega) (by omega) (by omega)]
        simp only [Option.map_some]
        rw [show ((i2 + 1 : Nat) : Int) = (i2 : Int) + 1 from by omega, show ((q - 1 : Nat) : Int) = (q : Int) - 1 from by omega]
  · intro q hq hq2
    show sort_partitionEqual_func_b2 α lf a (j : Int) d.toList (q : Int) = _
    unfold sort_partitionEqual_func_b2
    by_cases hc : q ≤ j
    · rw [gd_ifF (v := lt d[a]! d[q]!) (fun _ => hL.at a q rfl rfl (by omega) (by omega)), dle, adn (by omega) (by omega) (by omega) (by omega)]
      rfl
    · have hf : decide ((q : Int) ≤ (j : Int)) = false := by simp only [decide_eq_false_iff_not]; omega
      have hf' : decide (q ≤ j) = false := by simp only [decide_eq_false_iff_not]; omega
      rw [gdf hf, bind_some', hf, hf']
      rfl
theorem partEqL (hL : LfA lt lf) (a : Nat) : ∀ (n i j : Nat) (d : Array α), j + 1 - i ≤ n → a < i → a < d.size → i ≤ j + 2 → j < d.size → d.size < 1000000000 →
    sort_partitionEqual_func_l1 α lf a ((i : Int), (j : Int), d.toList) = some (((partEqLoop lt a i j d).1 : Int), (partEqLoop lt a i j d).2.toList) := by
  intro n
  induction n with
  | zero =>
    intro i j d hn ha haz hij hj hd
    have hb := partEqB hL ha haz hij hj hd
    have h1 := scanUp_ge (fun x => !lt d[a]! x) d j i
    have h2 := scanDown_le (fun x => lt d[a]! x) d (scanUp (fun x => !lt d[a]! x) d j i) j
    simp only [] at hb
    rw [if_pos (by omega)] at hb
    rw [partEqLoop_eq, if_pos (by omega)]
    exact loopO_inr hb
  | succ n ih =>
    intro i j d hn ha haz hij hj hd
    have hb := partEqB hL ha haz hij hj hd
    have h1 := scanUp_ge (fun x => !lt d[a]! x) d j i
    have h2 := scanDown_le (fun x => lt d[a]! x) d (scanUp (fun x => !lt d[a]! x) d j i) j
    simp only [] at hb
    by_cases hc : scanUp (fun x => !lt d[a]! x) d j i > scanDown (fun x => lt d[a]! x) d (scanUp (fun x => !lt d[a]! x) d j i) j
    · rw [if_pos hc] at hb
      rw [partEqLoop_eq, if_pos hc]
      exact loopO_inr hb
    · rw [if_neg hc] at hb
      rw [partEqLoop_eq, if_neg hc]
      exact (loopO_inl hb).trans (ih _ _ _ (by omega) (by omega) (by rw [swp_size]; exact haz) (by omega) (by rw [swp_size]; omega) (by rw [swp_size]; exact hd))
theorem partEq_eq (hL : LfA lt lf) {d : Array α} {a b pivot : Nat} (hab : a < b) (hp : pivot < b) (hb : b ≤ d.size) (hd : d.size < 1000000000) :
    sort_partitionEqual_func α lf d.toList a b pivot = some (((partitionEqual lt d a b pivot).1 : Int), (partitionEqual lt d a b pivot).2.toList) := by
  unfold sort_partitionEqual_func partitionEqual
  rw [swO_at a pivot rfl rfl (by omega) (by omega), bind_some', adn (by omega) (by omega) (by omega) (by omega), sbn (by omega) (by omega) (by omega) (by omega)]
  have := partEqL hL a _ (a + 1) (b - 1) (swp d a pivot) (Nat.le_refl _) (by omega) (by rw [swp_size]; omega) (by omega) (by rw [swp_size]; omega) (by rw [swp_size]; exact hd)
  rw [show (((a + 1 : Nat) : Int)) = (a : Int) + 1 from by omega, show (((b - 1 : Nat) : Int)) = (b : Int) - 1 from by omega] at this
  exact this
theorem partB (hL : LfA lt lf) {a i j : Nat} {d : Array α} (ha : a < i) (haz : a < d.size) (hij : i ≤ j + 2) (hj : j < d.size) (hd : d.size < 1000000000) :
    sort_partition_func_b3 α lf a (i : Int) (j : Int) d.toList =
      let i2 := scanUp (fun x => lt x d[a]!) d j i
      let j2 := scanDown (fun x => !lt x d[a]!) d i2 j
      if i2 > j2 then some (.inr ((j2 : Int), false, (swp d j2 a).toList)) else some (.inl (((i2 + 1 : Nat) : Int), ((j2 - 1 : Nat) : Int), (swp d i2 j2).toList)) := by
  show loopO (fun s => sort_partition_func_b4 α lf a (j : Int) d.toList s) (i : Int) = _
  have i2le := scanUp_le (fun x => lt x d[a]!) d j _ i rfl hij
  have i2ge := scanUp_ge (fun x => lt x d[a]!) d j i
  rw [scan_up (K := fun i2 => sort_partition_func_l5 α lf a d.toList (i2 : Int) (j : Int)) (p := fun x => lt x d[a]!) (d := d) (j := j) (lo := i) ?_ _ i rfl (Nat.le_refl _) hij]
  · generalize scanUp (fun x => lt x d[a]!) d j i = i2 at i2le i2ge
    show loopO (fun s => sort_partition_func_b5 α lf a d.toList (i2 : Int) s) (j : Int) = _
    have j2le := scanDown_le (fun x => !lt x d[a]!) d i2 j
    rw [scan_down (K := fun j2 => if i2 > j2 then some (.inr ((j2 : Int), false, (swp d j2 a).toList)) else some (.inl (((i2 + 1 : Nat) : Int), ((j2 - 1 : Nat) : Int), (swp d i2 j2).toList))) (p := fun x => !lt x d[a]!) (d := d) (i := i2) (hi := j) (by omega) ?_ j (Nat.le_refl _)]
    intro q hq
    unfold sort_partition_func_b5
    rw [gd_ifF (v := lt d[q]! d[a]!) (fun _ => hL.at q a rfl rfl (by omega) (by omega)), dle]
    split
    · rename_i hc
      have : i2 ≤ q := by simp at hc; exact hc.1
      rw [sbn (by omega) (by omega) (by omega) (by omega)]
      congr 2; omega
    · by_cases hc : i2 > q
      · rw [if_pos hc, show decide ((q : Int) < (i2 : Int)) = true from by simp only [decide_eq_true_eq]; omega, if_pos rfl, swO_at q a rfl rfl (by omega) (by omega)]; rfl
      · rw [if_neg hc, show decide ((q : Int) < (i2 : Int)) = false from by simp only [decide_eq_false_iff_not]; omega]
        simp only [Bool.false_eq_true, if_false]
        rw [swO_at i2 q rfl rfl (by omega) (by omega), bind_some', adn (by omega) (by omega) (by omega) (by omega), sbn (by omega) (by omega) (by omega) (by omega)]
        simp only [Option.map_some]
        rw [show ((i2 + 1 : Nat) : Int) = (i2 : Int) + 1 from by omega, show ((q - 1 : Nat) : Int) = (q : Int) - 1 from by omega]
  · intro q hq hq2
    show sort_partition_func_b4 α lf a (j : Int) d.toList (q : Int) = _
    unfold sort_partition_func_b4
    by_cases hc : q ≤ j
    · rw [gd_ifT (v := lt d[q]! d[a]!) (fun _ => hL.at q a rfl rfl (by omega) (by omega)), dle, adn (by omega) (by omega) (by omega) (by omega)]
      rfl
    · have hf : decide ((q : Int) ≤ (j : Int)) = false := by simp only [decide_eq_false_iff_not]; omega
      have hf' : decide (q ≤ j) = false := by simp only [decide_eq_false_iff_not]; omega
      rw [gdf hf, bind_some', hf, hf']
      rfl
theorem partL (hL : LfA lt lf) (a : Nat) : ∀ (n i j : Nat) (d : Array α), j + 1 - i ≤ n → a < i → a < d.size → i ≤ j + 2 → j < d.size → d.size < 1000000000 →
    sort_partition_func_l3 α lf a ((i : Int), (j : Int), d.toList) = some (((partLoop lt a i j d).1 : Int), false, (swp (partLoop lt a i j d).2 (partLoop lt a i j d).1 a).toList) := by
  intro n
  induction n with
  | zero =>
    intro i j d hn ha haz hij hj hd
    have hb := partB hL ha haz hij hj hd
    have h1 := scanUp_ge (fun x => lt x d[a]!) d j i
    have h2 := scanDown_le (fun x => !lt x d[a]!) d (scanUp (fun x => lt x d[a]!) d j i) j
    simp only [] at hb
    rw [if_pos (by omega)] at hb
    rw [partLoop_eq, if_pos (by omega)]
    exact loopO_inr hb
  | succ n ih =>
    intro i j d hn ha haz hij hj hd
    have hb := partB hL ha haz hij hj hd
    have h1 := scanUp_ge (fun x => lt x d[a]!) d j i
    have h2 := scanDown_le (fun x => !lt x d[a]!) d (scanUp (fun x => lt x d[a]!) d j i) j
    simp only [] at hb
    by_cases hc : scanUp (fun x => lt x d[a]!) d j i > scanDown (fun x => !lt x d[a]!) d (scanUp (fun x => lt x d[a]!) d j i) j
    · rw [if_pos hc] at hb
      rw [partLoop_eq, if_pos hc]
      exact loopO_inr hb
    · rw [if_neg hc] at hb
      rw [partLoop_eq, if_neg hc]
      exact (loopO_inl hb).trans (ih _ _ _ (by omega) (by omega) (by rw [swp_size]; exact haz) (by omega) (by rw [swp_size]; omega) (by rw [swp_size]; exact hd))
theorem part_eq (hL : LfA lt lf) {d : Array α} {a b pivot : Nat} (hab : a < b) (hp : pivot < b) (hb : b ≤ d.size) (hd : d.size < 1000000000) :
    sort_partition_func α lf d.toList a b pivot = some (((partition lt d a b pivot).1 : Int), (partition lt d a b pivot).2.1, (partition lt d a b pivot).2.2.toList) := by
  unfold sort_partition_func
  rw [swO_at a pivot rfl rfl (by omega) (by omega), bind_some', adn (by omega) (by omega) (by omega) (by omega)]
  rw [partition]
  have hd' : (swp d a pivot).size < 1000000000 := by rw [swp_size]; exact hd
  have hb' : b ≤ (swp d a pivot).size := by rw [swp_size]; exact hb
  generalize swp d a pivot = D at hd' hb'
  have e1 : sb (b : Int) 1 = ((b - 1 : Nat) : Int) := by rw [sbn (by omega) (by omega) (by omega) (by omega)]; omega
  show loopO (fun s => sort_partition_func_b1 α lf a b D.toList s) _ = _
  have i2le := scanUp_le (fun x => lt x D[a]!) D (b - 1) _ (a + 1) rfl (by omega)
  have i2ge := scanUp_ge (fun x => lt x D[a]!) D (b - 1) (a + 1)
  rw [show ((a : Int) + 1) = ((a + 1 : Nat) : Int) from by omega, scan_up (K := fun i2 => sort_partition_func_l2 α lf a D.toList (i2 : Int) ((b - 1 : Nat) : Int)) (p := fun x => lt x D[a]!) (d := D) (j := b - 1) (lo := a + 1) ?_ _ (a + 1) rfl (Nat.le_refl _) (by omega)]
  · generalize scanUp (fun x => lt x D[a]!) D (b - 1) (a + 1) = i2 at i2le i2ge
    show loopO (fun s => sort_partition_func_b2 α lf a D.toList (i2 : Int) s) ((b - 1 : Nat) : Int) = _
    have j2le := scanDown_le (fun x => !lt x D[a]!) D i2 (b - 1)
    rw [scan_down (K := fun j2 => if i2 > j2 then some ((j2 : Int), true, (swp D j2 a).toList) else sort_partition_func_l3 α lf a (((i2 + 1 : Nat) : Int), ((j2 - 1 : Nat) : Int), (swp D i2 j2).toList)) (p := fun x => !lt x D[a]!) (d := D) (i := i2) (hi := b - 1) (by omega) ?_ (b - 1) (Nat.le_refl _)]
    · generalize scanDown (fun x => !lt x D[a]!) D i2 (b - 1) = j2 at j2le
      by_cases hc : i2 > j2
      · rw [if_pos hc]
        simp only [if_pos hc]
      · rw [if_neg hc]
        simp only [if_neg hc]
        exact partL hL a _ (i2 + 1) (j2 - 1) (swp D i2 j2) (Nat.le_refl _) (by omega) (by rw [swp_size]; omega) (by omega) (by rw [swp_size]; omega) (by rw [swp_size]; exact hd')
    · intro q hq
      unfold sort_partition_func_b2
      rw [gd_ifF (v := lt D[q]! D[a]!) (fun _ => hL.at q a rfl rfl (by omega) (by omega)), dle]
      split
      · rename_i hc
        have : i2 ≤ q := by simp at hc; exact hc.1
        rw [sbn (by omega) (by omega) (by omega) (by omega)]
        congr 2; omega
      · by_cases hc : i2 > q
        · rw [if_pos hc, show decide ((q : Int) < (i2 : Int)) = true from by simp only [decide_eq_true_eq]; omega, if_pos rfl, swO_at q a rfl rfl (by omega) (by omega)]; rfl
        · rw [if_neg hc, show decide ((q : Int) < (i2 : Int)) = false from by simp only [decide_eq_false_iff_not]; omega]
          simp only [Bool.false_eq_true, if_false]
          rw [swO_at i2 q rfl rfl (by omega) (by omega), bind_some', adn (by omega) (by omega) (by omega) (by omega), sbn (by omega) (by omega) (by omega) (by omega)]
          rw [show ((i2 + 1 : Nat) : Int) = (i2 : Int) + 1 from by omega, show ((q - 1 : Nat) : Int) = (q : Int) - 1 from by omega]
  · intro q hq hq2
    show sort_partition_func_b1 α lf a b D.toList (q : Int) = _
    unfold sort_partition_func_b1
    rw [e1]
    by_cases hc : q ≤ b - 1
    · have hf : decide ((q : Int) ≤ ((b - 1 : Nat) : Int)) = true := by simp only [decide_eq_true_eq]; omega
      rw [gdt hf, hL.at q a rfl rfl (by omega) (by omega), bind_some', bind_some', hf, show decide (q ≤ b - 1) = true from by simp only [decide_eq_true_eq]; omega, adn (by omega) (by omega) (by omega) (by omega)]
      rfl
    · have hf : decide ((q : Int) ≤ ((b - 1 : Nat) : Int)) = false := by simp only [decide_eq_false_iff_not]; omega
      rw [gdf hf, bind_some', bind_some', hf, show decide (q ≤ b - 1) = false from by simp only [decide_eq_false_iff_not]; omega]
      rfl
end
end Go.Proofs.Ytnmkonlfnpcoiaa.Pl
