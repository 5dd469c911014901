import Derived.Test.YtnmkonlfnpcoiaaSall
import Derived.Test.YtnmkonlfnpcoiaaLib
import Derived.Sort.LotA
import Derived.Sort.LotB
import Derived.Sort.LotC
import Derived.Sort.LotD3
namespace Go.Proofs.Ytnmkonlfnpcoiaa.Pl
open Go.Proofs.Ytnmkonlfnpcoiaa Go.Sort
set_option linter.unusedVariables false
section
variable {α : Type} [Inhabited α] {lt : α → α → Bool} {lf : List α → Int → Int → Option Bool}
def LfA (lt : α → α → Bool) (lf : List α → Int → Int → Option Bool) : Prop := ∀ (d : Array α) (i j : Int), 0 ≤ i → 0 ≤ j → i.toNat < d.size → j.toNat < d.size → lf d.toList i j = some (lt d[i.toNat]! d[j.toNat]!)
theorem LfA.at (h : LfA lt lf) {d : Array α} {x y : Int} (i j : Nat) (hx : x = i) (hy : y = j) (hi : i < d.size) (hj : j < d.size) : lf d.toList x y = some (lt d[i]! d[j]!) := by
  subst hx; subst hy
  have := h d i j (by omega) (by omega) (by simpa using hi) (by simpa using hj)
  simpa using this
theorem swO_at {d : Array α} {x y : Int} (i j : Nat) (hx : x = i) (hy : y = j) (hi : i < d.size) (hj : j < d.size) : swO d.toList x y = some (swp d i j).toList := by
  subst hx; subst hy
  unfold swO
  have h1 : ix d.toList (i : Int) = some d[i]! := by
    rw [ix_at (by omega) (by simpa using hi)]; simp [hi]
  have h2 : ix d.toList (j : Int) = some d[j]! := by
    rw [ix_at (by omega) (by simpa using hj)]; simp [hj]
  rw [h1, bind_some', h2, bind_some', put_nat (by simpa using hi), bind_some', put_nat (by simpa using hj)]
  congr 1
  rw [swp, Array.toList_setIfInBounds, Array.toList_setIfInBounds]
theorem adn {x y : Int} (h : -1000000000 ≤ x) (h' : x ≤ 3000000000) (k : -1000000000 ≤ y) (k' : y ≤ 3000000000) : ad x y = x + y := ad_in (by omega)
theorem sbn {x y : Int} (h : -1000000000 ≤ x) (h' : x ≤ 3000000000) (k : -1000000000 ≤ y) (k' : y ≤ 3000000000) : sb x y = x - y := sb_in (by omega)
theorem gdt {β : Type} {c : Bool} {o : Option β} {d : β} (h : c = true) : gd c o d = o := by rw [h]; rfl
theorem gdf {β : Type} {c : Bool} {o : Option β} {d : β} (h : c = false) : gd c o d = some d := by rw [h]; rfl
theorem ins_in (hL : LfA lt lf) (a i : Nat) (hi : i < 1000000000) : ∀ (j : Nat) (d : Array α), j < d.size → j < 1000000000 →
    sort_insertionSort_func_l2 α lf a i ((j : Int), d.toList) = some (.inl (((i + 1 : Nat) : Int), (insInner lt a j d).toList)) := by
  intro j
  induction j with
  | zero =>
    intro d hd _
    refine loopO_inr ?_
    show sort_insertionSort_func_b2 α lf a i ((0 : Nat) : Int) d.toList = _
    unfold sort_insertionSort_func_b2
    have hc : decide ((a : Int) < ((0 : Nat) : Int)) = false := by simp
    rw [gdf hc, bind_some', hc]
    simp only [Bool.false_and, Bool.false_eq_true, if_false, Option.map_some, insInner]
    rw [adn (by omega) (by omega) (by omega) (by omega)]; rfl
  | succ j ih =>
    intro d hd hj
    have hb : sb (((j + 1 : Nat) : Int)) 1 = (j : Int) := by rw [sbn (by omega) (by omega) (by omega) (by omega)]; omega
    by_cases hc : a < j + 1
    · have hd' : decide ((a : Int) < ((j + 1 : Nat) : Int)) = true := by simp only [decide_eq_true_eq]; omega
      have hl := hL.at (d := d) (x := ((j + 1 : Nat) : Int)) (y := sb ((j + 1 : Nat) : Int) 1) (j + 1) j rfl hb hd (by omega)
      by_cases hx : lt d[j + 1]! d[j]! = true
      · have hsw := swO_at (d := d) (x := ((j + 1 : Nat) : Int)) (y := sb ((j + 1 : Nat) : Int) 1) (j + 1) j rfl hb hd (by omega)
        refine (loopO_inl (s' := ((j : Int), (swp d (j + 1) j).toList)) ?_).trans ((ih (swp d (j + 1) j) (by rw [swp_size]; omega) (by omega)).trans ?_)
        · show sort_insertionSort_func_b2 α lf a i ((j + 1 : Nat) : Int) d.toList = _
          unfold sort_insertionSort_func_b2
          rw [gdt hd', hl, bind_some', hd', hx, hsw]
          simp only [Bool.and_self, if_true, bind_some', hb]
        · rw [show insInner lt a (j + 1) d = insInner lt a j (swp d (j + 1) j) from by rw [insInner]; simp [hx]; omega]
      · have hx : lt d[j + 1]! d[j]! = false := by simpa using hx
        refine loopO_inr ?_
        show sort_insertionSort_func_b2 α lf a i ((j + 1 : Nat) : Int) d.toList = _
        unfold sort_insertionSort_func_b2
        rw [gdt hd', hl, bind_some', hx]
        simp only [Bool.and_false, Bool.false_eq_true, if_false, Option.map_some]
        rw [adn (by omega) (by omega) (by omega) (by omega), show insInner lt a (j + 1) d = d from by rw [insInner]; simp [hx]]; rfl
    · refine loopO_inr ?_
      show sort_insertionSort_func_b2 α lf a i ((j + 1 : Nat) : Int) d.toList = _
      unfold sort_insertionSort_func_b2
      have hc' : decide ((a : Int) < ((j + 1 : Nat) : Int)) = false := by simp only [decide_eq_false_iff_not]; omega
      rw [gdf hc', bind_some', hc']
      simp only [Bool.false_and, Bool.false_eq_true, if_false, Option.map_some]
      rw [adn (by omega) (by omega) (by omega) (by omega), show insInner lt a (j + 1) d = d from by rw [insInner]; simp; omega]; rfl
theorem insInner_size (a : Nat) : ∀ (j : Nat) (d : Array α), (insInner lt a j d).size = d.size
  | 0, d => rfl
  | j + 1, d => by
    rw [insInner]
    split
    · rw [insInner_size a j, swp_size]
    · rfl
theorem ins_eq (hL : LfA lt lf) {d : Array α} {a b : Nat} (hb : b ≤ d.size) (hab : a ≤ b) (hd : d.size < 1000000000) : sort_insertionSort_func α lf d.toList a b = some (insertionSort lt d a b).toList := by
  unfold sort_insertionSort_func insertionSort
  rw [adn (by omega) (by omega) (by omega) (by omega)]
  have key : ∀ (n i : Nat) (d : Array α), b - i = n → b ≤ d.size → d.size < 1000000000 → i ≤ d.size + 1 → sort_insertionSort_func_l1 α lf a b ((i : Int), d.toList) = some (insOuter lt a b i d).toList := by
    intro n
    induction n with
    | zero =>
      intro i d hn hb hd hi
      refine loopO_inr ?_
      show sort_insertionSort_func_b1 α lf a b (i : Int) d.toList = _
      unfold sort_insertionSort_func_b1
      rw [show insOuter lt a b i d = d from by rw [insOuter, if_neg (by omega)], show decide ((i : Int) < (b : Int)) = false from by simp only [decide_eq_false_iff_not]; omega]
      rfl
    | succ n ih =>
      intro i d hn hb hd hi
      have hi' : i < b := by omega
      refine (loopO_inl (s' := (((i + 1 : Nat) : Int), (insInner lt a i d).toList)) ?_).trans ((ih (i + 1) _ (by omega) (by rw [insInner_size]; exact hb) (by rw [insInner_size]; exact hd) (by rw [insInner_size]; omega)).trans ?_)
      · show sort_insertionSort_func_b1 α lf a b (i : Int) d.toList = _
        unfold sort_insertionSort_func_b1
        rw [show decide ((i : Int) < (b : Int)) = true from by simp only [decide_eq_true_eq]; omega, if_pos rfl]
        exact ins_in hL a i (by omega) i d (by omega) (by omega)
      · rw [show insOuter lt a b i d = insOuter lt a b (i + 1) (insInner lt a i d) from by rw [insOuter, if_pos hi']]
  exact key _ (a + 1) d rfl hb hd (by omega)
theorem sift_eq (hL : LfA lt lf) (hi first : Nat) : ∀ (n root : Nat) (d : Array α), hi - root ≤ n → first + hi ≤ d.size → d.size < 1000000000 → root ≤ d.size →
    sort_siftDown_func_l1 α lf hi first ((root : Int), d.toList) = some (siftDown lt hi first root d).toList ∧ (siftDown lt hi first root d).size = d.size := by
  intro n
  induction n with
  | zero =>
    intro root d hn hs hd hr
    have e : siftDown lt hi first root d = d := by rw [siftDown]; simp; omega
    rw [e]
    refine ⟨loopO_inr ?_, rfl⟩
    show sort_siftDown_func_b1 α lf hi first (root : Int) d.toList = _
    unfold sort_siftDown_func_b1
    rw [ml_in (by omega), adn (by omega) (by omega) (by omega) (by omega), show decide ((hi : Int) ≤ 2 * (root : Int) + 1) = true from by simp only [decide_eq_true_eq]; omega]
    rfl
  | succ n ih =>
    intro root d hn hs hd hr
    by_cases h1 : 2 * root + 1 ≥ hi
    · have e : siftDown lt hi first root d = d := by rw [siftDown, dif_pos h1]
      rw [e]
      refine ⟨loopO_inr ?_, rfl⟩
      show sort_siftDown_func_b1 α lf hi first (root : Int) d.toList = _
      unfold sort_siftDown_func_b1
      rw [ml_in (by omega), adn (by omega) (by omega) (by omega) (by omega), show decide ((hi : Int) ≤ 2 * (root : Int) + 1) = true from by simp only [decide_eq_true_eq]; omega]
      rfl
    · have bd : sort_siftDown_func_b1 α lf hi first (root : Int) d.toList = sort_siftDown_func_k2 α lf first root d.toList (((if 2 * root + 1 + 1 < hi && lt d[first + (2 * root + 1)]! d[first + (2 * root + 1) + 1]! then 2 * root + 2 else 2 * root + 1 : Nat)) : Int) := by
        unfold sort_siftDown_func_b1
        have e1 : ad (ml 2 (root : Int)) 1 = ((2 * root + 1 : Nat) : Int) := by rw [ml_in (by omega), adn (by omega) (by omega) (by omega) (by omega)]; omega
        have e2 : ad ((2 * root + 1 : Nat) : Int) 1 = ((2 * root + 2 : Nat) : Int) := by rw [adn (by omega) (by omega) (by omega) (by omega)]; omega
        have e3 : ad (first : Int) ((2 * root + 1 : Nat) : Int) = ((first + (2 * root + 1) : Nat) : Int) := by rw [adn (by omega) (by omega) (by omega) (by omega)]; omega
        have e4 : ad ((first + (2 * root + 1) : Nat) : Int) 1 = ((first + (2 * root + 1) + 1 : Nat) : Int) := by rw [adn (by omega) (by omega) (by omega) (by omega)]; omega
        rw [e1, e2, e3, e4, show decide ((hi : Int) ≤ ((2 * root + 1 : Nat) : Int)) = false from by simp only [decide_eq_false_iff_not]; omega]
        simp only [Bool.false_eq_true, if_false, bind_some']
        by_cases h2 : 2 * root + 2 < hi
        · rw [show decide (((2 * root + 2 : Nat) : Int) < (hi : Int)) = true from by simp only [decide_eq_true_eq]; omega, gdt rfl, hL.at _ _ rfl rfl (by omega) (by omega), bind_some', Bool.true_and, show decide (2 * root + 1 + 1 < hi) = true from by simp only [decide_eq_true_eq]; omega, Bool.true_and]
          split <;> rfl
        · rw [show decide (((2 * root + 2 : Nat) : Int) < (hi : Int)) = false from by simp only [decide_eq_false_iff_not]; omega, gdf rfl, bind_some', Bool.false_and, show decide (2 * root + 1 + 1 < hi) = false from by simp only [decide_eq_false_iff_not]; omega, Bool.false_and]
          simp only [Bool.false_eq_true, if_false]
      have nx : ∀ ch : Nat, (ch = 2 * root + 1 ∨ ch = 2 * root + 2) → ch < hi → siftDown lt hi first root d = (if !lt d[first + root]! d[first + ch]! then d else siftDown lt hi first ch (swp d (first + root) (first + ch))) →
          sort_siftDown_func_b1 α lf hi first (root : Int) d.toList = sort_siftDown_func_k2 α lf first root d.toList (ch : Int) →
          sort_siftDown_func_l1 α lf hi first ((root : Int), d.toList) = some (siftDown lt hi first root d).toList ∧ (siftDown lt hi first root d).size = d.size := by
        intro ch hch hlt he hb
        have e5 : ad (first : Int) (root : Int) = ((first + root : Nat) : Int) := by rw [adn (by omega) (by omega) (by omega) (by omega)]; omega
        have e6 : ad (first : Int) (ch : Int) = ((first + ch : Nat) : Int) := by rw [adn (by omega) (by omega) (by omega) (by omega)]; omega
        have hk : sort_siftDown_func_k2 α lf first root d.toList (ch : Int) = if !lt d[first + root]! d[first + ch]! then some (.inr d.toList) else some (.inl ((ch : Int), (swp d (first + root) (first + ch)).toList)) := by
          unfold sort_siftDown_func_k2
          rw [e5, e6, hL.at _ _ rfl rfl (by omega) (by omega), bind_some', swO_at _ _ rfl rfl (by omega) (by omega)]
          split <;> rfl
        rw [he]
        by_cases hx : (!lt d[first + root]! d[first + ch]!) = true
        · rw [if_pos hx]
          exact ⟨loopO_inr (hb.trans (hk.trans (if_pos hx))), rfl⟩
        · rw [if_neg hx]
          have := ih ch (swp d (first + root) (first + ch)) (by omega) (by rw [swp_size]; exact hs) (by rw [swp_size]; exact hd) (by rw [swp_size]; omega)
          exact ⟨(loopO_inl (hb.trans (hk.trans (if_neg hx)))).trans this.1, this.2.trans (swp_size _ _ _)⟩
      by_cases h2 : (decide (2 * root + 1 + 1 < hi) && lt d[first + (2 * root + 1)]! d[first + (2 * root + 1) + 1]!) = true
      · rw [if_pos h2] at bd
        have h3 : 2 * root + 2 < hi := by simp at h2; omega
        refine nx (2 * root + 2) (.inr rfl) h3 ?_ bd
        rw [siftDown, dif_neg h1, if_pos h2]
        split
        · rfl
        · first | rfl | rw [dif_pos h3]
      · rw [if_neg h2] at bd
        refine nx (2 * root + 1) (.inl rfl) (by omega) ?_ bd
        rw [siftDown, dif_neg h1, if_neg h2]
theorem heap_eq (hL : LfA lt lf) {d : Array α} {a b : Nat} (hb : b ≤ d.size) (hab : a < b) (hd : d.size < 1000000000) : sort_heapSort_func α lf d.toList a b = some (heapSort lt d a b).toList := by
  unfold sort_heapSort_func heapSort
  have e1 : sb (b : Int) (a : Int) = ((b - a : Nat) : Int) := by rw [sbn (by omega) (by omega) (by omega) (by omega)]; omega
  have e2 : sb ((b - a : Nat) : Int) 1 = ((b - a - 1 : Nat) : Int) := by rw [sbn (by omega) (by omega) (by omega) (by omega)]; omega
  rw [e1, e2, quK_nat _ (by omega), bind_some']
  have pop : ∀ (k : Nat) (d : Array α), a + k ≤ b → b ≤ d.size → d.size < 1000000000 → sort_heapSort_func_l2 α lf a (((k : Int) - 1), d.toList) = some (heapPop lt a k d).toList := by
    intro k
    induction k with
    | zero =>
      intro d _ _ _
      refine loopO_inr ?_
      show sort_heapSort_func_b2 α lf a (((0 : Nat) : Int) - 1) d.toList = _
      unfold sort_heapSort_func_b2
      rw [show decide (0 ≤ ((0 : Nat) : Int) - 1) = false from rfl]
      rfl
    | succ k ih =>
      intro d hk hb hd
      have e3 : (((k + 1 : Nat) : Int) - 1) = (k : Int) := by omega
      have e4 : ad (a : Int) (k : Int) = ((a + k : Nat) : Int) := by rw [adn (by omega) (by omega) (by omega) (by omega)]; omega
      have hs := sift_eq (lt := lt) hL k a k 0 (swp d a (a + k)) (by omega) (by rw [swp_size]; omega) (by rw [swp_size]; exact hd) (by omega)
      rw [e3]
      refine (loopO_inl (s' := (((k : Int) - 1), (siftDown lt k a 0 (swp d a (a + k))).toList)) ?_).trans (ih _ (by omega) (by rw [hs.2, swp_size]; exact hb) (by rw [hs.2, swp_size]; exact hd))
      show sort_heapSort_func_b2 α lf a (k : Int) d.toList = _
      unfold sort_heapSort_func_b2
      rw [show decide (0 ≤ (k : Int)) = true from by simp, if_pos rfl, e4, swO_at _ _ rfl rfl (by omega) (by omega), bind_some']
      unfold sort_siftDown_func
      rw [show (0 : Int) = ((0 : Nat) : Int) from rfl, hs.1, bind_some', sbn (by omega) (by omega) (by omega) (by omega)]
  have build : ∀ (k : Nat) (d : Array α), k ≤ b - a → b ≤ d.size → d.size < 1000000000 → sort_heapSort_func_l1 α lf a b (((k : Int) - 1), d.toList) = some (heapPop lt a (b - a) (heapBuild lt (b - a) a k d)).toList := by
    intro k
    induction k with
    | zero =>
      intro d _ hb hd
      refine loopO_inr ?_
      show sort_heapSort_func_b1 α lf a b (((0 : Nat) : Int) - 1) d.toList = _
      unfold sort_heapSort_func_b1
      rw [show decide (0 ≤ ((0 : Nat) : Int) - 1) = false from rfl]
      simp only [Bool.false_eq_true, if_false]
      rw [e1, sbn (by omega) (by omega) (by omega) (by omega), pop (b - a) d (by omega) hb hd]
      rfl
    | succ k ih =>
      intro d hk hb hd
      have e3 : (((k + 1 : Nat) : Int) - 1) = (k : Int) := by omega
      have hs := sift_eq (lt := lt) hL (b - a) a (b - a - k) k d (by omega) (by omega) hd (by omega)
      rw [e3]
      refine (loopO_inl (s' := (((k : Int) - 1), (siftDown lt (b - a) a k d).toList)) ?_).trans (ih _ (by omega) (by rw [hs.2]; exact hb) (by rw [hs.2]; exact hd))
      show sort_heapSort_func_b1 α lf a b (k : Int) d.toList = _
      unfold sort_heapSort_func_b1
      rw [show decide (0 ≤ (k : Int)) = true from by simp, if_pos rfl, e1]
      unfold sort_siftDown_func
      rw [hs.1, bind_some', sbn (by omega) (by omega) (by omega) (by omega)]
  have := build ((b - a - 1) / 2 + 1) d (by omega) hb hd
  rw [show (((b - a - 1) / 2 + 1 : Nat) : Int) - 1 = (((b - a - 1) / 2 : Nat) : Int) from by omega] at this
  exact this
theorem rev_eq {d : Array α} {a b : Nat} (hb : b ≤ d.size) (hab : a < b) (hd : d.size < 1000000000) : sort_reverseRange_func α lf d.toList a b = some (reverseRange d a b).toList := by
  unfold sort_reverseRange_func reverseRange
  have key : ∀ (n i j : Nat) (d : Array α), j - i ≤ n → j < d.size → d.size < 1000000000 → i ≤ d.size → sort_reverseRange_func_l1 α ((i : Int), (j : Int), d.toList) = some (reverseLoop i j d).toList := by
    intro n
    induction n with
    | zero =>
      intro i j d hn hj hd hi
      refine loopO_inr ?_
      show sort_reverseRange_func_b1 α (i : Int) (j : Int) d.toList = _
      unfold sort_reverseRange_func_b1
      rw [show reverseLoop i j d = d from by rw [reverseLoop, if_neg (by omega)], show decide ((i : Int) < (j : Int)) = false from by simp only [decide_eq_false_iff_not]; omega]
      rfl
    | succ n ih =>
      intro i j d hn hj hd hi
      by_cases hc : i < j
      · refine (loopO_inl (s' := (((i + 1 : Nat) : Int), ((j - 1 : Nat) : Int), (swp d i j).toList)) ?_).trans ((ih (i + 1) (j - 1) (swp d i j) (by omega) (by rw [swp_size]; omega) (by rw [swp_size]; exact hd) (by rw [swp_size]; omega)).trans ?_)
        · show sort_reverseRange_func_b1 α (i : Int) (j : Int) d.toList = _
          unfold sort_reverseRange_func_b1
          rw [show decide ((i : Int) < (j : Int)) = true from by simp only [decide_eq_true_eq]; omega, if_pos rfl, swO_at _ _ rfl rfl (by omega) (by omega), bind_some', adn (by omega) (by omega) (by omega) (by omega), sbn (by omega) (by omega) (by omega) (by omega)]
          congr 3
          congr 1
          omega
        · rw [show reverseLoop i j d = reverseLoop (i + 1) (j - 1) (swp d i j) from by rw [reverseLoop, if_pos hc]]
      · refine loopO_inr ?_
        show sort_reverseRange_func_b1 α (i : Int) (j : Int) d.toList = _
        unfold sort_reverseRange_func_b1
        rw [show reverseLoop i j d = d from by rw [reverseLoop, if_neg (by omega)], show decide ((i : Int) < (j : Int)) = false from by simp only [decide_eq_false_iff_not]; omega]
        rfl
  rw [sbn (by omega) (by omega) (by omega) (by omega), show ((b : Int) - 1) = ((b - 1 : Nat) : Int) from by omega]
  exact key _ a (b - 1) d (Nat.le_refl _) (by omega) hd (by omega)
end
open Go.Proofs.Ytnmkonlfnpcoiaa Go.Sort
set_option linter.unusedVariables false
theorem loopO_map {S R : Type} {body : S → Option (S ⊕ R)} {s : S} {x : Option R} (h : body s = Option.map Sum.inr x) : loopO body s = x := by
  cases x with
  | none => rw [loopO_eq, h]; rfl
  | some r => exact loopO_inr h
theorem scan_up {R : Type} {α : Type} [Inhabited α] {body : Int → Option (Int ⊕ R)} {K : Nat → Option R} {p : α → Bool} {d : Array α} {j lo : Nat}
    (h : ∀ i : Nat, lo ≤ i → i ≤ j + 2 → body i = if decide (i ≤ j) && p d[i]! then some (.inl ((i + 1 : Nat) : Int)) else (K i).map Sum.inr) :
    ∀ (n i : Nat), j + 1 - i = n → lo ≤ i → i ≤ j + 2 → loopO body i = K (scanUp p d j i) := by
  intro n
  induction n with
  | zero =>
    intro i hn hl hi
    have := h i hl hi
    rw [show decide (i ≤ j) = false from by simp only [decide_eq_false_iff_not]; omega] at this
    rw [loopO_map (x := K i) (by simpa using this), scanUp, if_neg (by simp; omega)]
  | succ n ih =>
    intro i hn hl hi
    have := h i hl hi
    by_cases hc : (decide (i ≤ j) && p d[i]!) = true
    · rw [if_pos hc] at this
      have hij : i ≤ j := by simp at hc; exact hc.1
      rw [loopO_inl this, ih (i + 1) (by omega) (by omega) (by omega)]
      conv => rhs; rw [scanUp, if_pos (by simpa using hc)]
    · rw [if_neg hc] at this
      rw [loopO_map this, scanUp, if_neg (by simpa using hc)]
theorem scan_down {R : Type} {α : Type} [Inhabited α] {body : Int → Option (Int ⊕ R)} {K : Nat → Option R} {p : α → Bool} {d : Array α} {i hi : Nat} (h1 : 1 ≤ i)
    (h : ∀ j : Nat, j ≤ hi → body j = if decide (i ≤ j) && p d[j]! then some (.inl ((j - 1 : Nat) : Int)) else (K j).map Sum.inr) :
    ∀ (j : Nat), j ≤ hi → loopO body j = K (scanDown p d i j) := by
  intro j
  induction j with
  | zero =>
    intro hj
    have := h 0 hj
    rw [show decide (i ≤ 0) = false from by simp only [decide_eq_false_iff_not]; omega] at this
    rw [show scanDown p d i 0 = 0 from rfl]
    exact loopO_map (by simpa using this)
  | succ j ih =>
    intro hj
    have := h (j + 1) hj
    by_cases hc : (decide (i ≤ j + 1) && p d[j + 1]!) = true
    · rw [if_pos hc] at this
      rw [loopO_inl this, Nat.add_sub_cancel, ih (by omega)]
      conv => rhs; rw [scanDown, if_pos (by simpa using hc)]
    · rw [if_neg hc] at this
      rw [loopO_map this, scanDown, if_neg (by simpa using hc)]
theorem dle (a b : Nat) : decide ((a : Int) ≤ (b : Int)) = decide (a ≤ b) := by
  by_cases h : a ≤ b
  · simp [h]
  · simp [h]
section
variable {α : Type} [Inhabited α] {lt : α → α → Bool} {lf : List α → Int → Int → Option Bool}
theorem gd_ifT {β : Type} {c v : Bool} {o : Option Bool} {A B : Option β} (h : c = true → o = some v) : ((gd c o false).bind fun b => if (c && b) = true then A else B) = if (c && v) = true then A else B := by
  cases c with
  | false => rfl
  | true => rw [gdt rfl, h rfl]; rfl
theorem gd_ifF {β : Type} {c v : Bool} {o : Option Bool} {A B : Option β} (h : c = true → o = some v) : ((gd c o false).bind fun b => if (c && !b) = true then A else B) = if (c && !v) = true then A else B := by
  cases c with
  | false => rfl
  | true => rw [gdt rfl, h rfl]; rfl
theorem scanUp_le (p : α → Bool) (d : Array α) (j : Nat) : ∀ (n i : Nat), j + 1 - i = n → i ≤ j + 2 → scanUp p d j i ≤ j + 2 := by
  intro n
  induction n with
  | zero => intro i hn hi; rw [scanUp, if_neg (by simp; omega)]; exact hi
  | succ n ih =>
    intro i hn hi
    rw [scanUp]
    split
    · exact ih (i + 1) (by omega) (by omega)
    · exact hi
theorem partEqB (hL : LfA lt lf) {a i j : Nat} {d : Array α} (ha : a < i) (haz : a < d.size) (hij : i ≤ j + 2) (hj : j < d.size) (hd : d.size < 1000000000) :
    sort_partitionEqual_func_b1 α lf a (i : Int) (j : Int) d.toList =
      let i2 := scanUp (fun x => !lt d[a]! x) d j i
      let j2 := scanDown (fun x => lt d[a]! x) d i2 j
      if i2 > j2 then some (.inr ((i2 : Int), d.toList)) else some (.inl (((i2 + 1 : Nat) : Int), ((j2 - 1 : Nat) : Int), (swp d i2 j2).toList)) := by
  show loopO (fun s => sort_partitionEqual_func_b2 α lf a (j : Int) d.toList s) (i : Int) = _
  have i2le := scanUp_le (fun x => !lt d[a]! x) d j _ i rfl hij
  have i2ge := scanUp_ge (fun x => !lt d[a]! x) d j i
  rw [scan_up (K := fun i2 => sort_partitionEqual_func_l3 α lf a d.toList (i2 : Int) (j : Int)) (p := fun x => !lt d[a]! x) (d := d) (j := j) (lo := i) ?_ _ i rfl (Nat.le_refl _) hij]
  · generalize scanUp (fun x => !lt d[a]! x) d j i = i2 at i2le i2ge
    show loopO (fun s => sort_partitionEqual_func_b3 α lf a d.toList (i2 : Int) s) (j : Int) = _
    have j2le := scanDown_le (fun x => lt d[a]! x) d i2 j
    rw [scan_down (K := fun j2 => if i2 > j2 then some (.inr ((i2 : Int), d.toList)) else some (.inl (((i2 + 1 : Nat) : Int), ((j2 - 1 : Nat) : Int), (swp d i2 j2).toList))) (p := fun x => lt d[a]! x) (d := d) (i := i2) (hi := j) (by omega) ?_ j (Nat.le_refl _)]
    intro q hq
    unfold sort_partitionEqual_func_b3
    rw [gd_ifT (v := lt d[a]! d[q]!) (fun _ => hL.at a q rfl rfl (by omega) (by omega)), dle]
    split
    · rename_i hc
      have : i2 ≤ q := by simp at hc; exact hc.1
      rw [sbn (by omega) (by omega) (by omega) (by omega)]
      congr 2; omega
    · by_cases hc : i2 > q
      · rw [if_pos hc, show decide ((q : Int) < (i2 : Int)) = true from by simp only [decide_eq_true_eq]; omega]; rfl
      · rw [if_neg hc, show decide ((q : Int) < (i2 : Int)) = false from by simp only [decide_eq_false_iff_not]; omega]
        simp only [Bool.false_eq_true, if_false]
        rw [swO_at i2 q rfl rfl (by omega) (by omega), bind_some', adn (by omega) (by omega) (by omega) (by omega), sbn (by omega) (by omega) (by omega) (by omega)]
        simp only [Option.map_some]
        rw [show ((i2 + 1 : Nat) : Int) = (i2 : Int) + 1 from by omega, show ((q - 1 : Nat) : Int) = (q : Int) - 1 from by omega]
  · intro q hq hq2
    show sort_partitionEqual_func_b2 α lf a (j : Int) d.toList (q : Int) = _
    unfold sort_partitionEqual_func_b2
    by_cases hc : q ≤ j
    · rw [gd_ifF (v := lt d[a]! d[q]!) (fun _ => hL.at a q rfl rfl (by omega) (by omega)), dle, adn (by omega) (by omega) (by omega) (by omega)]
      rfl
    · have hf : decide ((q : Int) ≤ (j : Int)) = false := by simp only [decide_eq_false_iff_not]; omega
      have hf' : decide (q ≤ j) = false := by simp only [decide_eq_false_iff_not]; omega
      rw [gdf hf, bind_some', hf, hf']
      rfl
theorem partEqL (hL : LfA lt lf) (a : Nat) : ∀ (n i j : Nat) (d : Array α), j + 1 - i ≤ n → a < i → a < d.size → i ≤ j + 2 → j < d.size → d.size < 1000000000 →
    sort_partitionEqual_func_l1 α lf a ((i : Int), (j : Int), d.toList) = some (((partEqLoop lt a i j d).1 : Int), (partEqLoop lt a i j d).2.toList) := by
  intro n
  induction n with
  | zero =>
    intro i j d hn ha haz hij hj hd
    have hb := partEqB hL ha haz hij hj hd
    have h1 := scanUp_ge (fun x => !lt d[a]! x) d j i
    have h2 := scanDown_le (fun x => lt d[a]! x) d (scanUp (fun x => !lt d[a]! x) d j i) j
    simp only [] at hb
    rw [if_pos (by omega)] at hb
    rw [partEqLoop_eq, if_pos (by omega)]
    exact loopO_inr hb
  | succ n ih =>
    intro i j d hn ha haz hij hj hd
    have hb := partEqB hL ha haz hij hj hd
    have h1 := scanUp_ge (fun x => !lt d[a]! x) d j i
    have h2 := scanDown_le (fun x => lt d[a]! x) d (scanUp (fun x => !lt d[a]! x) d j i) j
    simp only [] at hb
    by_cases hc : scanUp (fun x => !lt d[a]! x) d j i > scanDown (fun x => lt d[a]! x) d (scanUp (fun x => !lt d[a]! x) d j i) j
    · rw [if_pos hc] at hb
      rw [partEqLoop_eq, if_pos hc]
      exact loopO_inr hb
    · rw [if_neg hc] at hb
      rw [partEqLoop_eq, if_neg hc]
      exact (loopO_inl hb).trans (ih _ _ _ (by omega) (by omega) (by rw [swp_size]; exact haz) (by omega) (by rw [swp_size]; omega) (by rw [swp_size]; exact hd))
theorem partEq_eq (hL : LfA lt lf) {d : Array α} {a b pivot : Nat} (hab : a < b) (hp : pivot < b) (hb : b ≤ d.size) (hd : d.size < 1000000000) :
    sort_partitionEqual_func α lf d.toList a b pivot = some (((partitionEqual lt d a b pivot).1 : Int), (partitionEqual lt d a b pivot).2.toList) := by
  unfold sort_partitionEqual_func partitionEqual
  rw [swO_at a pivot rfl rfl (by omega) (by omega), bind_some', adn (by omega) (by omega) (by omega) (by omega), sbn (by omega) (by omega) (by omega) (by omega)]
  have := partEqL hL a _ (a + 1) (b - 1) (swp d a pivot) (Nat.le_refl _) (by omega) (by rw [swp_size]; omega) (by omega) (by rw [swp_size]; omega) (by rw [swp_size]; exact hd)
  rw [show (((a + 1 : Nat) : Int)) = (a : Int) + 1 from by omega, show (((b - 1 : Nat) : Int)) = (b : Int) - 1 from by omega] at this
  exact this
theorem partB (hL : LfA lt lf) {a i j : Nat} {d : Array α} (ha : a < i) (haz : a < d.size) (hij : i ≤ j + 2) (hj : j < d.size) (hd : d.size < 1000000000) :
    sort_partition_func_b3 α lf a (i : Int) (j : Int) d.toList =
      let i2 := scanUp (fun x => lt x d[a]!) d j i
      let j2 := scanDown (fun x => !lt x d[a]!) d i2 j
      if i2 > j2 then some (.inr ((j2 : Int), false, (swp d j2 a).toList)) else some (.inl (((i2 + 1 : Nat) : Int), ((j2 - 1 : Nat) : Int), (swp d i2 j2).toList)) := by
  show loopO (fun s => sort_partition_func_b4 α lf a (j : Int) d.toList s) (i : Int) = _
  have i2le := scanUp_le (fun x => lt x d[a]!) d j _ i rfl hij
  have i2ge := scanUp_ge (fun x => lt x d[a]!) d j i
  rw [scan_up (K := fun i2 => sort_partition_func_l5 α lf a d.toList (i2 : Int) (j : Int)) (p := fun x => lt x d[a]!) (d := d) (j := j) (lo := i) ?_ _ i rfl (Nat.le_refl _) hij]
  · generalize scanUp (fun x => lt x d[a]!) d j i = i2 at i2le i2ge
    show loopO (fun s => sort_partition_func_b5 α lf a d.toList (i2 : Int) s) (j : Int) = _
    have j2le := scanDown_le (fun x => !lt x d[a]!) d i2 j
    rw [scan_down (K := fun j2 => if i2 > j2 then some (.inr ((j2 : Int), false, (swp d j2 a).toList)) else some (.inl (((i2 + 1 : Nat) : Int), ((j2 - 1 : Nat) : Int), (swp d i2 j2).toList))) (p := fun x => !lt x d[a]!) (d := d) (i := i2) (hi := j) (by omega) ?_ j (Nat.le_refl _)]
    intro q hq
    unfold sort_partition_func_b5
    rw [gd_ifF (v := lt d[q]! d[a]!) (fun _ => hL.at q a rfl rfl (by omega) (by omega)), dle]
    split
    · rename_i hc
      have : i2 ≤ q := by simp at hc; exact hc.1
      rw [sbn (by omega) (by omega) (by omega) (by omega)]
      congr 2; omega
    · by_cases hc : i2 > q
      · rw [if_pos hc, show decide ((q : Int) < (i2 : Int)) = true from by simp only [decide_eq_true_eq]; omega, if_pos rfl, swO_at q a rfl rfl (by omega) (by omega)]; rfl
      · rw [if_neg hc, show decide ((q : Int) < (i2 : Int)) = false from by simp only [decide_eq_false_iff_not]; omega]
        simp only [Bool.false_eq_true, if_false]
        rw [swO_at i2 q rfl rfl (by omega) (by omega), bind_some', adn (by omega) (by omega) (by omega) (by omega), sbn (by omega) (by omega) (by omega) (by omega)]
        simp only [Option.map_some]
        rw [show ((i2 + 1 : Nat) : Int) = (i2 : Int) + 1 from by omega, show ((q - 1 : Nat) : Int) = (q : Int) - 1 from by omega]
  · intro q hq hq2
    show sort_partition_func_b4 α lf a (j : Int) d.toList (q : Int) = _
    unfold sort_partition_func_b4
    by_cases hc : q ≤ j
    · rw [gd_ifT (v := lt d[q]! d[a]!) (fun _ => hL.at q a rfl rfl (by omega) (by omega)), dle, adn (by omega) (by omega) (by omega) (by omega)]
      rfl
    · have hf : decide ((q : Int) ≤ (j : Int)) = false := by simp only [decide_eq_false_iff_not]; omega
      have hf' : decide (q ≤ j) = false := by simp only [decide_eq_false_iff_not]; omega
      rw [gdf hf, bind_some', hf, hf']
      rfl
theorem partL (hL : LfA lt lf) (a : Nat) : ∀ (n i j : Nat) (d : Array α), j + 1 - i ≤ n → a < i → a < d.size → i ≤ j + 2 → j < d.size → d.size < 1000000000 →
    sort_partition_func_l3 α lf a ((i : Int), (j : Int), d.toList) = some (((partLoop lt a i j d).1 : Int), false, (swp (partLoop lt a i j d).2 (partLoop lt a i j d).1 a).toList) := by
  intro n
  induction n with
  | zero =>
    intro i j d hn ha haz hij hj hd
    have hb := partB hL ha haz hij hj hd
    have h1 := scanUp_ge (fun x => lt x d[a]!) d j i
    have h2 := scanDown_le (fun x => !lt x d[a]!) d (scanUp (fun x => lt x d[a]!) d j i) j
    simp only [] at hb
    rw [if_pos (by omega)] at hb
    rw [partLoop_eq, if_pos (by omega)]
    exact loopO_inr hb
  | succ n ih =>
    intro i j d hn ha haz hij hj hd
    have hb := partB hL ha haz hij hj hd
    have h1 := scanUp_ge (fun x => lt x d[a]!) d j i
    have h2 := scanDown_le (fun x => !lt x d[a]!) d (scanUp (fun x => lt x d[a]!) d j i) j
    simp only [] at hb
    by_cases hc : scanUp (fun x => lt x d[a]!) d j i > scanDown (fun x => !lt x d[a]!) d (scanUp (fun x => lt x d[a]!) d j i) j
    · rw [if_pos hc] at hb
      rw [partLoop_eq, if_pos hc]
      exact loopO_inr hb
    · rw [if_neg hc] at hb
      rw [partLoop_eq, if_neg hc]
      exact (loopO_inl hb).trans (ih _ _ _ (by omega) (by omega) (by rw [swp_size]; exact haz) (by omega) (by rw [swp_size]; omega) (by rw [swp_size]; exact hd))
theorem part_eq (hL : LfA lt lf) {d : Array α} {a b pivot : Nat} (hab : a < b) (hp : pivot < b) (hb : b ≤ d.size) (hd : d.size < 1000000000) :
    sort_partition_func α lf d.toList a b pivot = some (((partition lt d a b pivot).1 : Int), (partition lt d a b pivot).2.1, (partition lt d a b pivot).2.2.toList) := by
  unfold sort_partition_func
  rw [swO_at a pivot rfl rfl (by omega) (by omega), bind_some', adn (by omega) (by omega) (by omega) (by omega)]
  rw [partition]
  have hd' : (swp d a pivot).size < 1000000000 := by rw [swp_size]; exact hd
  have hb' : b ≤ (swp d a pivot).size := by rw [swp_size]; exact hb
  generalize swp d a pivot = D at hd' hb'
  have e1 : sb (b : Int) 1 = ((b - 1 : Nat) : Int) := by rw [sbn (by omega) (by omega) (by omega) (by omega)]; omega
  show loopO (fun s => sort_partition_func_b1 α lf a b D.toList s) _ = _
  have i2le := scanUp_le (fun x => lt x D[a]!) D (b - 1) _ (a + 1) rfl (by omega)
  have i2ge := scanUp_ge (fun x => lt x D[a]!) D (b - 1) (a + 1)
  rw [show ((a : Int) + 1) = ((a + 1 : Nat) : Int) from by omega, scan_up (K := fun i2 => sort_partition_func_l2 α lf a D.toList (i2 : Int) ((b - 1 : Nat) : Int)) (p := fun x => lt x D[a]!) (d := D) (j := b - 1) (lo := a + 1) ?_ _ (a + 1) rfl (Nat.le_refl _) (by omega)]
  · generalize scanUp (fun x => lt x D[a]!) D (b - 1) (a + 1) = i2 at i2le i2ge
    show loopO (fun s => sort_partition_func_b2 α lf a D.toList (i2 : Int) s) ((b - 1 : Nat) : Int) = _
    have j2le := scanDown_le (fun x => !lt x D[a]!) D i2 (b - 1)
    rw [scan_down (K := fun j2 => if i2 > j2 then some ((j2 : Int), true, (swp D j2 a).toList) else sort_partition_func_l3 α lf a (((i2 + 1 : Nat) : Int), ((j2 - 1 : Nat) : Int), (swp D i2 j2).toList)) (p := fun x => !lt x D[a]!) (d := D) (i := i2) (hi := b - 1) (by omega) ?_ (b - 1) (Nat.le_refl _)]
    · generalize scanDown (fun x => !lt x D[a]!) D i2 (b - 1) = j2 at j2le
      by_cases hc : i2 > j2
      · rw [if_pos hc]
        simp only [if_pos hc]
      · rw [if_neg hc]
        simp only [if_neg hc]
        exact partL hL a _ (i2 + 1) (j2 - 1) (swp D i2 j2) (Nat.le_refl _) (by omega) (by rw [swp_size]; omega) (by omega) (by rw [swp_size]; omega) (by rw [swp_size]; exact hd')
    · intro q hq
      unfold sort_partition_func_b2
      rw [gd_ifF (v := lt D[q]! D[a]!) (fun _ => hL.at q a rfl rfl (by omega) (by omega)), dle]
      split
      · rename_i hc
        have : i2 ≤ q := by simp at hc; exact hc.1
        rw [sbn (by omega) (by omega) (by omega) (by omega)]
        congr 2; omega
      · by_cases hc : i2 > q
        · rw [if_pos hc, show decide ((q : Int) < (i2 : Int)) = true from by simp only [decide_eq_true_eq]; omega, if_pos rfl, swO_at q a rfl rfl (by omega) (by omega)]; rfl
        · rw [if_neg hc, show decide ((q : Int) < (i2 : Int)) = false from by simp only [decide_eq_false_iff_not]; omega]
          simp only [Bool.false_eq_true, if_false]
          rw [swO_at i2 q rfl rfl (by omega) (by omega), bind_some', adn (by omega) (by omega) (by omega) (by omega), sbn (by omega) (by omega) (by omega) (by omega)]
          rw [show ((i2 + 1 : Nat) : Int) = (i2 : Int) + 1 from by omega, show ((q - 1 : Nat) : Int) = (q : Int) - 1 from by omega]
  · intro q hq hq2
    show sort_partition_func_b1 α lf a b D.toList (q : Int) = _
    unfold sort_partition_func_b1
    rw [e1]
    by_cases hc : q ≤ b - 1
    · have hf : decide ((q : Int) ≤ ((b - 1 : Nat) : Int)) = true := by simp only [decide_eq_true_eq]; omega
      rw [gdt hf, hL.at q a rfl rfl (by omega) (by omega), bind_some', bind_some', hf, show decide (q ≤ b - 1) = true from by simp only [decide_eq_true_eq]; omega, adn (by omega) (by omega) (by omega) (by omega)]
      rfl
    · have hf : decide ((q : Int) ≤ ((b - 1 : Nat) : Int)) = false := by simp only [decide_eq_false_iff_not]; omega
      rw [gdf hf, bind_some', bind_some', hf, show decide (q ≤ b - 1) = false from by simp only [decide_eq_false_iff_not]; omega]
      rfl
end
open Go.Proofs.Ytnmkonlfnpcoiaa Go.Sort
set_option linter.unusedVariables false
section
variable {α : Type} [Inhabited α] {lt : α → α → Bool} {lf : List α → Int → Int → Option Bool}
theorem shiftDown_size : ∀ (j : Nat) (d : Array α), (shiftDown lt j d).size = d.size
  | 0, d => rfl
  | j + 1, d => by
    rw [shiftDown]
    split
    · rfl
    · rw [shiftDown_size j, swp_size]
theorem shiftUp_size (b : Nat) : ∀ (n j : Nat) (d : Array α), b - j ≤ n → (shiftUp lt b j d).size = d.size := by
  intro n
  induction n with
  | zero => intro j d hn; rw [shiftUp, if_neg (by omega)]
  | succ n ih =>
    intro j d hn
    rw [shiftUp]
    split
    · split
      · rfl
      · rw [ih _ _ (by omega), swp_size]
    · rfl
theorem shU (hL : LfA lt lf) {b : Nat} {s i : Int} : ∀ (n j : Nat) (d : Array α), b - j ≤ n → 1 ≤ j → b ≤ d.size → d.size < 1000000000 → j ≤ d.size + 1 →
    sort_partialInsertionSort_func_l6 α lf b s i ((j : Int), d.toList) = some (.inl (i, ad s 1, (shiftUp lt b j d).toList)) := by
  intro n
  induction n with
  | zero =>
    intro j d hn h1 hb hd hj
    refine loopO_inr ?_
    show sort_partialInsertionSort_func_b6 α lf b s i (j : Int) d.toList = _
    unfold sort_partialInsertionSort_func_b6
    rw [show shiftUp lt b j d = d from by rw [shiftUp, if_neg (by omega)], show decide ((j : Int) < (b : Int)) = false from by simp only [decide_eq_false_iff_not]; omega]
    rfl
  | succ n ih =>
    intro j d hn h1 hb hd hj
    by_cases hc : j < b
    · have e1 : sb (j : Int) 1 = ((j - 1 : Nat) : Int) := by rw [sbn (by omega) (by omega) (by omega) (by omega)]; omega
      have ht : decide ((j : Int) < (b : Int)) = true := by simp only [decide_eq_true_eq]; omega
      by_cases hx : lt d[j]! d[j - 1]! = true
      · refine (loopO_inl (s' := (((j + 1 : Nat) : Int), (swp d j (j - 1)).toList)) ?_).trans ((ih (j + 1) (swp d j (j - 1)) (by omega) (by omega) (by rw [swp_size]; exact hb) (by rw [swp_size]; exact hd) (by rw [swp_size]; omega)).trans ?_)
        · show sort_partialInsertionSort_func_b6 α lf b s i (j : Int) d.toList = _
          unfold sort_partialInsertionSort_func_b6
          rw [ht, if_pos rfl, e1, hL.at j (j - 1) rfl rfl (by omega) (by omega), bind_some', hx, swO_at j (j - 1) rfl rfl (by omega) (by omega), adn (by omega) (by omega) (by omega) (by omega)]
          rfl
        · rw [show shiftUp lt b j d = shiftUp lt b (j + 1) (swp d j (j - 1)) from by conv => lhs; rw [shiftUp, if_pos hc]; simp [hx]]
      · have hx : lt d[j]! d[j - 1]! = false := by simpa using hx
        refine loopO_inr ?_
        show sort_partialInsertionSort_func_b6 α lf b s i (j : Int) d.toList = _
        unfold sort_partialInsertionSort_func_b6
        rw [show shiftUp lt b j d = d from by rw [shiftUp, if_pos hc]; simp [hx], ht, if_pos rfl, e1, hL.at j (j - 1) rfl rfl (by omega) (by omega), bind_some', hx]
        rfl
    · refine loopO_inr ?_
      show sort_partialInsertionSort_func_b6 α lf b s i (j : Int) d.toList = _
      unfold sort_partialInsertionSort_func_b6
      rw [show shiftUp lt b j d = d from by rw [shiftUp, if_neg hc], show decide ((j : Int) < (b : Int)) = false from by simp only [decide_eq_false_iff_not]; omega]
      rfl
theorem shD (hL : LfA lt lf) {b : Nat} {s i : Int} : ∀ (j : Nat) (d : Array α), j < d.size → d.size < 1000000000 →
    sort_partialInsertionSort_func_l8 α lf b s i ((j : Int), d.toList) = sort_partialInsertionSort_func_k4 α lf b s i (shiftDown lt j d).toList := by
  intro j
  induction j with
  | zero =>
    intro d hj hd
    refine loopO_map ?_
    show sort_partialInsertionSort_func_b8 α lf b s i ((0 : Nat) : Int) d.toList = _
    unfold sort_partialInsertionSort_func_b8
    rfl
  | succ j ih =>
    intro d hj hd
    have e1 : sb ((j + 1 : Nat) : Int) 1 = (j : Int) := by rw [sbn (by omega) (by omega) (by omega) (by omega)]; omega
    have ht : decide (1 ≤ ((j + 1 : Nat) : Int)) = true := by simp only [decide_eq_true_eq]; omega
    by_cases hx : lt d[j + 1]! d[j]! = true
    · refine (loopO_inl (s' := ((j : Int), (swp d (j + 1) j).toList)) ?_).trans ((ih (swp d (j + 1) j) (by rw [swp_size]; omega) (by rw [swp_size]; exact hd)).trans ?_)
      · show sort_partialInsertionSort_func_b8 α lf b s i ((j + 1 : Nat) : Int) d.toList = _
        unfold sort_partialInsertionSort_func_b8
        rw [ht, if_pos rfl, e1, hL.at (j + 1) j rfl rfl (by omega) (by omega), bind_some', hx, swO_at (j + 1) j rfl rfl (by omega) (by omega)]
        rfl
      · rw [show shiftDown lt (j + 1) d = shiftDown lt j (swp d (j + 1) j) from by conv => lhs; rw [shiftDown]; simp [hx]]
    · have hx : lt d[j + 1]! d[j]! = false := by simpa using hx
      refine loopO_map ?_
      show sort_partialInsertionSort_func_b8 α lf b s i ((j + 1 : Nat) : Int) d.toList = _
      unfold sort_partialInsertionSort_func_b8
      rw [show shiftDown lt (j + 1) d = d from by rw [shiftDown]; simp [hx], ht, if_pos rfl, e1, hL.at (j + 1) j rfl rfl (by omega) (by omega), bind_some', hx]
      rfl
theorem scanS (hL : LfA lt lf) {a b : Nat} {s : Int} {d : Array α} (hb : b ≤ d.size) (hd : d.size < 1000000000) {K : Nat → Option ((Int × Int × (List α)) ⊕ (Bool × (List α)))}
    (hK : ∀ i : Nat, 1 ≤ i → i ≤ b → (if decide ((i : Int) = (b : Int)) then (Option.map Sum.inr (some (true, d.toList))) else (if decide ((sb b a) < 50) then (Option.map Sum.inr (some (false, d.toList))) else ((swO d.toList i (sb i 1)).bind fun l7958 => if decide (2 ≤ (sb i a)) then (sort_partialInsertionSort_func_l8 α lf b s i (sb i 1, l7958)) else (sort_partialInsertionSort_func_k4 α lf b s i l7958)))) = K i) :
    ∀ (n i : Nat), b - i = n → 1 ≤ i → i ≤ b → sort_partialInsertionSort_func_l3 α lf a b s d.toList (i : Int) = K (scanSorted lt d b i) := by
  intro n
  have body : ∀ i : Nat, 1 ≤ i → i ≤ b → sort_partialInsertionSort_func_b3 α lf a b s d.toList (i : Int) = if decide (i < b) && !lt d[i]! d[i - 1]! then some (.inl ((i + 1 : Nat) : Int)) else (K i).map Sum.inr := by
    intro i h1 h2
    unfold sort_partialInsertionSort_func_b3
    have e1 : sb (i : Int) 1 = ((i - 1 : Nat) : Int) := by rw [sbn (by omega) (by omega) (by omega) (by omega)]; omega
    have hk := hK i h1 h2
    rw [e1] at hk ⊢
    by_cases hc : i < b
    · have ht : decide ((i : Int) < (b : Int)) = true := by simp only [decide_eq_true_eq]; omega
      rw [gdt ht, hL.at i (i - 1) rfl rfl (by omega) (by omega), bind_some', ht, show decide (i < b) = true from by simpa using hc, hk, adn (by omega) (by omega) (by omega) (by omega)]
      rfl
    · have ht : decide ((i : Int) < (b : Int)) = false := by simp only [decide_eq_false_iff_not]; omega
      rw [gdf ht, bind_some', ht, show decide (i < b) = false from by simpa using hc, hk]
      rfl
  induction n with
  | zero =>
    intro i hn h1 h2
    rw [show scanSorted lt d b i = i from by rw [scanSorted, if_neg (by simp; omega)]]
    exact loopO_map ((body i h1 h2).trans (by rw [if_neg (by simp; omega)]))
  | succ n ih =>
    intro i hn h1 h2
    by_cases hc : (decide (i < b) && !lt d[i]! d[i - 1]!) = true
    · rw [show scanSorted lt d b i = scanSorted lt d b (i + 1) from by conv => lhs; rw [scanSorted, if_pos hc]]
      exact (loopO_inl ((body i h1 h2).trans (if_pos hc))).trans (ih (i + 1) (by omega) (by omega) (by omega))
    · rw [show scanSorted lt d b i = i from by rw [scanSorted, if_neg hc]]
      exact loopO_map ((body i h1 h2).trans (if_neg hc))
theorem scanS_rng (d : Array α) (b : Nat) : ∀ (n i : Nat), b - i = n → i ≤ b → i ≤ scanSorted lt d b i ∧ scanSorted lt d b i ≤ b := by
  intro n
  induction n with
  | zero => intro i hn hi; rw [scanSorted, if_neg (by simp; omega)]; omega
  | succ n ih =>
    intro i hn hi
    rw [scanSorted]
    split
    · have := ih (i + 1) (by omega) (by omega); omega
    · omega
theorem pins_eq (hL : LfA lt lf) {a b : Nat} (hab : a < b) : ∀ (s i : Nat) (d : Array α), s ≤ 5 → a < i → i ≤ b → b ≤ d.size → d.size < 1000000000 →
    sort_partialInsertionSort_func_l1 α lf a b ((i : Int), ((5 - s : Nat) : Int), d.toList) = some ((partialIns lt a b s i d).2, (partialIns lt a b s i d).1.toList) := by
  intro s
  induction s with
  | zero =>
    intro i d hs hi hib hb hd
    refine loopO_inr ?_
    show sort_partialInsertionSort_func_b1 α lf a b (i : Int) ((5 : Nat) : Int) d.toList = _
    unfold sort_partialInsertionSort_func_b1
    rfl
  | succ s ih =>
    intro i d hs hi hib hb hd
    have hr := scanS_rng (lt := lt) d b _ i rfl hib
    have e0 : sb (b : Int) (a : Int) = ((b - a : Nat) : Int) := by rw [sbn (by omega) (by omega) (by omega) (by omega)]; omega
    have bd : sort_partialInsertionSort_func_b1 α lf a b (i : Int) ((5 - (s + 1) : Nat) : Int) d.toList = sort_partialInsertionSort_func_l3 α lf a b ((5 - (s + 1) : Nat) : Int) d.toList (i : Int) := by
      unfold sort_partialInsertionSort_func_b1
      rw [show decide (((5 - (s + 1) : Nat) : Int) < 5) = true from by simp only [decide_eq_true_eq]; omega, if_pos rfl]
    rw [scanS hL hb hd (fun i h1 h2 => rfl) _ i rfl (by omega) hib] at bd
    rw [partialIns]
    generalize scanSorted lt d b i = j at hr bd ⊢
    by_cases hj : j = b
    · rw [if_pos hj]
      rw [show decide ((j : Int) = (b : Int)) = true from by simp [hj]] at bd
      exact loopO_inr bd
    · rw [if_neg hj]
      rw [show decide ((j : Int) = (b : Int)) = false from by simp only [decide_eq_false_iff_not]; omega, e0] at bd
      simp only [Bool.false_eq_true, if_false] at bd
      by_cases h5 : b - a < 50
      · rw [if_pos h5]
        rw [show decide (((b - a : Nat) : Int) < 50) = true from by simp only [decide_eq_true_eq]; omega] at bd
        exact loopO_inr bd
      · rw [if_neg h5]
        rw [show decide (((b - a : Nat) : Int) < 50) = false from by simp only [decide_eq_false_iff_not]; omega] at bd
        simp only [Bool.false_eq_true, if_false] at bd
        have e1 : sb (j : Int) 1 = ((j - 1 : Nat) : Int) := by rw [sbn (by omega) (by omega) (by omega) (by omega)]; omega
        have e2 : sb (j : Int) (a : Int) = ((j - a : Nat) : Int) := by rw [sbn (by omega) (by omega) (by omega) (by omega)]; omega
        have e3 : sb (b : Int) (j : Int) = ((b - j : Nat) : Int) := by rw [sbn (by omega) (by omega) (by omega) (by omega)]; omega
        have e4 : ad ((5 - (s + 1) : Nat) : Int) 1 = ((5 - s : Nat) : Int) := by rw [adn (by omega) (by omega) (by omega) (by omega)]; omega
        have e5 : ad (j : Int) 1 = ((j + 1 : Nat) : Int) := by rw [adn (by omega) (by omega) (by omega) (by omega)]; omega
        rw [e1, swO_at j (j - 1) rfl rfl (by omega) (by omega), bind_some', e2] at bd
        have s1 : (swp d j (j - 1)).size = d.size := swp_size _ _ _
        generalize swp d j (j - 1) = D at bd s1 ⊢
        have k4 : ∀ D : Array α, D.size = d.size → sort_partialInsertionSort_func_k4 α lf b ((5 - (s + 1) : Nat) : Int) (j : Int) D.toList = some (.inl ((j : Int), ((5 - s : Nat) : Int), (if b - j ≥ 2 then shiftUp lt b (j + 1) D else D).toList)) := by
          intro D hD
          unfold sort_partialInsertionSort_func_k4
          rw [e3]
          by_cases h2 : b - j ≥ 2
          · rw [show decide (2 ≤ ((b - j : Nat) : Int)) = true from by simp only [decide_eq_true_eq]; omega, if_pos rfl, e5, shU hL _ (j + 1) D (Nat.le_refl _) (by omega) (by omega) (by omega) (by omega), if_pos h2, e4]
          · rw [show decide (2 ≤ ((b - j : Nat) : Int)) = false from by simp only [decide_eq_false_iff_not]; omega, if_neg h2]
            simp only [Bool.false_eq_true, if_false]
            unfold sort_partialInsertionSort_func_k2
            rw [e4]
        have fin : ∀ D2 : Array α, D2.size = d.size → sort_partialInsertionSort_func_b1 α lf a b (i : Int) ((5 - (s + 1) : Nat) : Int) d.toList = sort_partialInsertionSort_func_k4 α lf b ((5 - (s + 1) : Nat) : Int) (j : Int) D2.toList →
            sort_partialInsertionSort_func_l1 α lf a b ((i : Int), ((5 - (s + 1) : Nat) : Int), d.toList) = some ((partialIns lt a b s j (if b - j ≥ 2 then shiftUp lt b (j + 1) D2 else D2)).2, (partialIns lt a b s j (if b - j ≥ 2 then shiftUp lt b (j + 1) D2 else D2)).1.toList) := by
          intro D2 hD2 hb2
          rw [k4 D2 hD2] at hb2
          have sz : (if b - j ≥ 2 then shiftUp lt b (j + 1) D2 else D2).size = d.size := by
            split
            · rw [shiftUp_size b _ _ _ (Nat.le_refl _), hD2]
            · exact hD2
          exact (loopO_inl hb2).trans (ih j _ (by omega) (by omega) (by omega) (by omega) (by omega))
        by_cases h2 : j - a ≥ 2
        · rw [show decide (2 ≤ ((j - a : Nat) : Int)) = true from by simp only [decide_eq_true_eq]; omega, if_pos rfl, shD hL (j - 1) D (by omega) (by omega)] at bd
          simp only [if_pos h2]
          exact fin _ (by rw [shiftDown_size, s1]) bd
        · rw [show decide (2 ≤ ((j - a : Nat) : Int)) = false from by simp only [decide_eq_false_iff_not]; omega] at bd
          simp only [Bool.false_eq_true, if_false] at bd
          simp only [if_neg h2]
          exact fin _ s1 bd
theorem pinsert_eq (hL : LfA lt lf) {a b : Nat} {d : Array α} (hab : a < b) (hb : b ≤ d.size) (hd : d.size < 1000000000) :
    sort_partialInsertionSort_func α lf d.toList a b = some ((partialInsertionSort lt d a b).2, (partialInsertionSort lt d a b).1.toList) := by
  unfold sort_partialInsertionSort_func partialInsertionSort
  rw [adn (by omega) (by omega) (by omega) (by omega)]
  exact pins_eq hL hab 5 (a + 1) d (by omega) (by omega) (by omega) hb hd
end
open Go.Proofs.Ytnmkonlfnpcoiaa Go.Sort
set_option linter.unusedVariables false
theorem quK_k (n k : Nat) (hk : 0 < k) (h : n < 9223372036854775807) : quK .i64 (n : Int) (k : Int) = some ((n / k : Nat) : Int) := by
  unfold quK
  rw [if_neg (by omega)]
  congr 1
  have e : Int.tdiv (n : Int) (k : Int) = ((n / k : Nat) : Int) := by
    rw [Int.tdiv_eq_ediv_of_nonneg (by omega)]; simp
  rw [e]
  have := Nat.div_le_self n k
  generalize n / k = q at this
  exact IntWalk.i64_in _ (by omega)
theorem npt_all : ((List.range 128).all fun n => Nat.blt n 8 || (match sort_nextPowerOfTwo (n : Int) with | some M => decide (1 ≤ M) && decide (M ≤ 2 * n) | none => false)) = true := by kernel_rfl
theorem npt {n : Nat} (h8 : 8 ≤ n) (h : n < 128) : ∃ M : Nat, sort_nextPowerOfTwo (n : Int) = some (M : Int) ∧ 1 ≤ M ∧ M ≤ 2 * n := by
  have := List.all_eq_true.1 npt_all n (by simpa using h)
  have hb : Nat.blt n 8 = false := by
    cases hc : Nat.blt n 8 with
    | false => rfl
    | true => have := Nat.le_of_ble_eq_true hc; omega
  rw [hb, Bool.false_or] at this
  cases hM : sort_nextPowerOfTwo (n : Int) with
  | none => rw [hM] at this; cases this
  | some M =>
    rw [hM] at this
    simp only [Bool.and_eq_true, decide_eq_true_eq] at this
    exact ⟨M.toNat, by congr 1; omega, by omega, by omega⟩
theorem xsh (r : Int) : ∃ x : Int, sort_xorshift_Next r = some (x, x) := by
  unfold sort_xorshift_Next
  have e1 : ∀ x : Int, slK .u64 x 13 = some (IntKind.u64.wrap (x * 2 ^ (13 : Int).toNat)) := fun x => if_pos (by decide)
  have e2 : ∀ x : Int, srK .u64 x 7 = some (x / 2 ^ (7 : Int).toNat) := fun x => if_pos (by decide)
  have e3 : ∀ x : Int, slK .u64 x 17 = some (IntKind.u64.wrap (x * 2 ^ (17 : Int).toNat)) := fun x => if_pos (by decide)
  rw [e1, bind_some', e2, bind_some', e3, bind_some', bind_some']
  exact ⟨_, rfl⟩
theorem anU (x : Int) {m : Nat} (hm : m < 1000) : ∃ k : Nat, k ≤ m ∧ anK .u64 x (m : Int) = (k : Int) := by
  refine ⟨(BitVec.ofInt 64 x &&& BitVec.ofInt 64 (m : Int)).toNat, ?_, ?_⟩
  · rw [BitVec.toNat_and]
    refine Nat.le_trans Nat.and_le_right ?_
    rw [BitVec.toNat_ofInt]
    omega
  · have hl : (BitVec.ofInt 64 x &&& BitVec.ofInt 64 (m : Int)).toNat < 2 ^ 64 := (BitVec.ofInt 64 x &&& BitVec.ofInt 64 (m : Int)).isLt
    show IntKind.u64.wrap ((BitVec.ofInt 64 x &&& BitVec.ofInt 64 (m : Int)).toNat : Int) = _
    generalize (BitVec.ofInt 64 x &&& BitVec.ofInt 64 (m : Int)).toNat = q at hl
    exact IntWalk.u64_in _ (by omega)
section
variable {α : Type} [Inhabited α] {lt : α → α → Bool} {lf : List α → Int → Int → Option Bool}
theorem ord2 (hL : LfA lt lf) {d : Array α} {a b s : Nat} (ha : a < d.size) (hb : b < d.size) (hs : s ≤ 100) :
    ∃ x y s' : Nat, sort_order2_func α lf d.toList a b s = some ((x : Int), (y : Int), (s' : Int), d.toList) ∧ (x = a ∧ y = b ∨ x = b ∧ y = a) ∧ s' ≤ s + 1 := by
  unfold sort_order2_func
  rw [hL.at b a rfl rfl hb ha, bind_some']
  cases lt d[b]! d[a]! with
  | true =>
    refine ⟨b, a, s + 1, ?_, .inr ⟨rfl, rfl⟩, Nat.le_refl _⟩
    rw [if_pos rfl, adn (by omega) (by omega) (by omega) (by omega)]; rfl
  | false => exact ⟨a, b, s, rfl, .inl ⟨rfl, rfl⟩, Nat.le_succ _⟩
theorem med (hL : LfA lt lf) {d : Array α} {a b c s : Nat} (ha : a < d.size) (hb : b < d.size) (hc : c < d.size) (hs : s ≤ 90) :
    ∃ m s' : Nat, sort_median_func α lf d.toList a b c s = some ((m : Int), (s' : Int), d.toList) ∧ (m = a ∨ m = b ∨ m = c) ∧ s' ≤ s + 3 := by
  unfold sort_median_func
  obtain ⟨x1, y1, s1, e1, h1, k1⟩ := ord2 (lt := lt) hL (s := s) ha hb (by omega)
  rw [e1, bind_some']
  obtain ⟨x2, y2, s2, e2, h2, k2⟩ := ord2 (lt := lt) hL (d := d) (a := y1) (b := c) (s := s1) (by omega) hc (by omega)
  simp only []
  rw [e2, bind_some']
  obtain ⟨x3, y3, s3, e3, h3, k3⟩ := ord2 (lt := lt) hL (d := d) (a := x1) (b := x2) (s := s2) (by omega) (by omega) (by omega)
  simp only []
  rw [e3, bind_some']
  exact ⟨y3, s3, rfl, by omega, by omega⟩
theorem medA (hL : LfA lt lf) {d : Array α} {a s : Nat} (h1 : 1 ≤ a) (ha : a + 1 < d.size) (hd : d.size < 1000000000) (hs : s ≤ 80) :
    ∃ m s' : Nat, sort_medianAdjacent_func α lf d.toList a s = some ((m : Int), (s' : Int), d.toList) ∧ (m = a - 1 ∨ m = a ∨ m = a + 1) ∧ s' ≤ s + 3 := by
  unfold sort_medianAdjacent_func
  rw [sbn (by omega) (by omega) (by omega) (by omega), adn (by omega) (by omega) (by omega) (by omega)]
  obtain ⟨m, s', e, h, k⟩ := med (lt := lt) hL (d := d) (a := a - 1) (b := a) (c := a + 1) (s := s) (by omega) (by omega) (by omega) (by omega)
  rw [show (a : Int) - 1 = ((a - 1 : Nat) : Int) from by omega, show (a : Int) + 1 = ((a + 1 : Nat) : Int) from by omega, e, bind_some']
  exact ⟨m, s', rfl, h, k⟩
omit [Inhabited α] in
theorem piv_k1 {d : Array α} {s p : Nat} : ∃ h : Int, sort_choosePivot_func_k1 α (s : Int) (p : Int) d.toList = some ((p : Int), h, d.toList) := by
  unfold sort_choosePivot_func_k1
  split
  · exact ⟨_, rfl⟩
  · split
    · exact ⟨_, rfl⟩
    · exact ⟨_, rfl⟩
theorem piv (hL : LfA lt lf) {d : Array α} {a b : Nat} (hab : a + 12 < b) (hb : b ≤ d.size) (hd : d.size < 1000000000) :
    ∃ (p : Nat) (h : Int), sort_choosePivot_func α lf d.toList a b = some ((p : Int), h, d.toList) ∧ a ≤ p ∧ p < b := by
  unfold sort_choosePivot_func
  have e0 : sb (b : Int) (a : Int) = ((b - a : Nat) : Int) := by rw [sbn (by omega) (by omega) (by omega) (by omega)]; omega
  have q := quK_k (b - a) 4 (by omega) (by omega)
  rw [show ((4 : Nat) : Int) = 4 from rfl] at q
  rw [e0, q, bind_some', bind_some', bind_some']
  have m1 : ad (a : Int) (ml (((b - a) / 4 : Nat) : Int) 1) = ((a + (b - a) / 4 * 1 : Nat) : Int) := by rw [ml_in (by omega), adn (by omega) (by omega) (by omega) (by omega)]; omega
  have m2 : ad (a : Int) (ml (((b - a) / 4 : Nat) : Int) 2) = ((a + (b - a) / 4 * 2 : Nat) : Int) := by rw [ml_in (by omega), adn (by omega) (by omega) (by omega) (by omega)]; omega
  have m3 : ad (a : Int) (ml (((b - a) / 4 : Nat) : Int) 3) = ((a + (b - a) / 4 * 3 : Nat) : Int) := by rw [ml_in (by omega), adn (by omega) (by omega) (by omega) (by omega)]; omega
  rw [m1, m2, m3, show decide (8 ≤ ((b - a : Nat) : Int)) = true from by simp only [decide_eq_true_eq]; omega, if_pos rfl]
  have fin : ∀ (s i j k : Nat), s ≤ 20 → a ≤ i → i < b → a ≤ j → j < b → a ≤ k → k < b → ∃ (p : Nat) (h : Int), sort_choosePivot_func_k2 α lf (s : Int) (i : Int) (j : Int) (k : Int) d.toList = some ((p : Int), h, d.toList) ∧ a ≤ p ∧ p < b := by
    intro s i j k hs h1 h2 h3 h4 h5 h6
    unfold sort_choosePivot_func_k2
    obtain ⟨m, s', e, h, _⟩ := med (lt := lt) hL (d := d) (a := i) (b := j) (c := k) (s := s) (by omega) (by omega) (by omega) (by omega)
    rw [e, bind_some']
    obtain ⟨h', eh⟩ := piv_k1 (d := d) (s := s') (p := m)
    exact ⟨m, h', eh, by omega, by omega⟩
  by_cases h5 : 50 ≤ b - a
  · rw [show decide (50 ≤ ((b - a : Nat) : Int)) = true from by simp only [decide_eq_true_eq]; omega, if_pos rfl]
    obtain ⟨x1, s1, e1, h1, k1⟩ := medA (lt := lt) hL (d := d) (a := a + (b - a) / 4 * 1) (s := 0) (by omega) (by omega) hd (by omega)
    rw [show ((0 : Nat) : Int) = 0 from rfl] at e1
    rw [e1, bind_some']
    have b1 : a ≤ x1 ∧ x1 < b := by omega
    clear h1
    obtain ⟨x2, s2, e2, h2, k2⟩ := medA (lt := lt) hL (d := d) (a := a + (b - a) / 4 * 2) (s := s1) (by omega) (by omega) hd (by omega)
    simp only []
    rw [e2, bind_some']
    have b2 : a ≤ x2 ∧ x2 < b := by omega
    clear h2
    obtain ⟨x3, s3, e3, h3, k3⟩ := medA (lt := lt) hL (d := d) (a := a + (b - a) / 4 * 3) (s := s2) (by omega) (by omega) hd (by omega)
    simp only []
    rw [e3, bind_some']
    have b3 : a ≤ x3 ∧ x3 < b := by omega
    exact fin s3 x1 x2 x3 (by omega) b1.1 b1.2 b2.1 b2.2 b3.1 b3.2
  · rw [show decide (50 ≤ ((b - a : Nat) : Int)) = false from by simp only [decide_eq_false_iff_not]; omega]
    have f0 := fin 0 (a + (b - a) / 4 * 1) (a + (b - a) / 4 * 2) (a + (b - a) / 4 * 3) (by omega) (by omega) (by omega) (by omega) (by omega) (by omega) (by omega)
    rw [show ((0 : Nat) : Int) = 0 from rfl] at f0
    simp only [Bool.false_eq_true, if_false]
    exact f0
theorem brk {d : Array α} {a b : Nat} (hab : a + 12 < b) (hb : b ≤ d.size) (hd : d.size < 128) : ∃ d' : Array α, sort_breakPatterns_func α lf d.toList a b = some d'.toList ∧ PermIn a b d d' := by
  unfold sort_breakPatterns_func
  have e0 : sb (b : Int) (a : Int) = ((b - a : Nat) : Int) := by rw [sbn (by omega) (by omega) (by omega) (by omega)]; omega
  have q := quK_k (b - a) 4 (by omega) (by omega)
  rw [show ((4 : Nat) : Int) = 4 from rfl] at q
  obtain ⟨M, hM, hM1, hM2⟩ := npt (n := b - a) (by omega) (by omega)
  rw [e0, show decide (8 ≤ ((b - a : Nat) : Int)) = true from by simp only [decide_eq_true_eq]; omega, if_pos rfl, hM, bind_some', q, bind_some']
  have m1 : ad (a : Int) (ml (((b - a) / 4 : Nat) : Int) 2) = ((a + (b - a) / 4 * 2 : Nat) : Int) := by rw [ml_in (by omega), adn (by omega) (by omega) (by omega) (by omega)]; omega
  have m2 : sb (ad (a : Int) (ml (((b - a) / 4 : Nat) : Int) 2)) 1 = ((a + (b - a) / 4 * 2 - 1 : Nat) : Int) := by rw [m1, sbn (by omega) (by omega) (by omega) (by omega)]; omega
  have m3 : ad (ad (a : Int) (ml (((b - a) / 4 : Nat) : Int) 2)) 1 = ((a + (b - a) / 4 * 2 + 1 : Nat) : Int) := by rw [m1, adn (by omega) (by omega) (by omega) (by omega)]; omega
  have hM3 : sbK .u64 (M : Int) 1 = ((M - 1 : Nat) : Int) := (IntWalk.u64_in _ (by omega)).trans (by omega)
  rw [m2]
  let I : Int × Int × List α → Prop := fun s => ∃ (i : Nat) (d' : Array α), s.2.1 = (i : Int) ∧ a + (b - a) / 4 * 2 - 1 ≤ i ∧ i ≤ a + (b - a) / 4 * 2 + 2 ∧ s.2.2 = d'.toList ∧ PermIn a b d d'
  let μ : Int × Int × List α → Nat := fun s => (((a + (b - a) / 4 * 2 + 2 : Nat) : Int) - s.2.1).toNat
  have step : ∀ s, I s → (∃ s', (fun (s : Int × Int × List α) => sort_breakPatterns_func_b1 α a b (M : Int) s.1 s.2.1 s.2.2) s = some (.inl s') ∧ I s' ∧ μ s' < μ s) ∨ ∃ r, (fun (s : Int × Int × List α) => sort_breakPatterns_func_b1 α a b (M : Int) s.1 s.2.1 s.2.2) s = some (.inr r) ∧ ∃ d' : Array α, r = d'.toList ∧ PermIn a b d d' := by
    rintro ⟨r, _, _⟩ ⟨i, d', rfl, h1, h2, rfl, hp⟩
    show (∃ s', sort_breakPatterns_func_b1 α a b (M : Int) r (i : Int) d'.toList = some (.inl s') ∧ _ ∧ _) ∨ ∃ x, sort_breakPatterns_func_b1 α a b (M : Int) r (i : Int) d'.toList = some (.inr x) ∧ _
    unfold sort_breakPatterns_func_b1
    rw [e0, q, bind_some', m3]
    by_cases hc : i ≤ a + (b - a) / 4 * 2 + 1
    · left
      obtain ⟨x, hx⟩ := xsh r
      obtain ⟨k, hk, hk2⟩ := anU x (m := M - 1) (by omega)
      rw [show decide ((i : Int) ≤ ((a + (b - a) / 4 * 2 + 1 : Nat) : Int)) = true from by simp only [decide_eq_true_eq]; omega, if_pos rfl, hx, bind_some', bind_some', hM3, hk2, IntWalk.i64_in _ (by omega)]
      have fin : ∀ o : Nat, o < b - a → ∃ s', sort_breakPatterns_func_k2 α a (i : Int) d'.toList (x, x) (o : Int) = some (.inl s') ∧ (∃ (i2 : Nat) (d2 : Array α), s'.2.1 = (i2 : Int) ∧ a + (b - a) / 4 * 2 - 1 ≤ i2 ∧ i2 ≤ a + (b - a) / 4 * 2 + 2 ∧ s'.2.2 = d2.toList ∧ PermIn a b d d2) ∧ (((a + (b - a) / 4 * 2 + 2 : Nat) : Int) - s'.2.1).toNat < (((a + (b - a) / 4 * 2 + 2 : Nat) : Int) - (i : Int)).toNat := by
        intro o ho
        have hs : d'.size = d.size := hp.1
        unfold sort_breakPatterns_func_k2
        rw [adn (by omega) (by omega) (by omega) (by omega), show (a : Int) + (o : Int) = ((a + o : Nat) : Int) from by omega, swO_at i (a + o) rfl rfl (by omega) (by omega), bind_some', adn (by omega) (by omega) (by omega) (by omega)]
        refine ⟨_, rfl, ⟨i + 1, _, by simp, by omega, by omega, rfl, permIn_trans _ _ _ a b hp (swp_permIn d' a b i (a + o) (by omega) (by omega) (by omega) (by omega) (by omega))⟩, ?_⟩
        simp only []
        omega
      by_cases ho : b - a ≤ k
      · rw [show decide (((b - a : Nat) : Int) ≤ (k : Int)) = true from by simp only [decide_eq_true_eq]; omega, if_pos rfl, sbn (by omega) (by omega) (by omega) (by omega), show (k : Int) - ((b - a : Nat) : Int) = ((k - (b - a) : Nat) : Int) from by omega]
        exact fin _ (by omega)
      · rw [show decide (((b - a : Nat) : Int) ≤ (k : Int)) = false from by simp only [decide_eq_false_iff_not]; omega]
        exact fin _ (by omega)
    · right
      rw [show decide ((i : Int) ≤ ((a + (b - a) / 4 * 2 + 1 : Nat) : Int)) = false from by simp only [decide_eq_false_iff_not]; omega]
      exact ⟨_, rfl, d', rfl, hp⟩
  obtain ⟨r, hr, d', hd', hp⟩ := loopO_rule I μ (fun l => ∃ d' : Array α, l = d'.toList ∧ PermIn a b d d') step (s := (IntKind.u64.wrap ((b - a : Nat) : Int), ((a + (b - a) / 4 * 2 - 1 : Nat) : Int), d.toList)) ⟨_, d, rfl, Nat.le_refl _, by omega, rfl, permIn_refl d a b⟩
  exact ⟨d', by rw [← hd']; exact hr, hp⟩
theorem pdq_k5 (hS : SWO lt) (hL : LfA lt lf) {rf : List α → Int → Int → Int → Option (List α)} {m : Nat}
    (hrf : ∀ (d : Array α) (x y : Nat) (lim : Int), x ≤ y → y ≤ d.size → d.size < 128 → y - x < m → Below lt x y d → ∃ d' : Array α, rf d.toList x y lim = some d'.toList ∧ PermIn x y d d' ∧ SortedIn lt x y d')
    {a b p : Nat} {d : Array α} {lim : Int} {wb wp : Bool} (hab : a + 12 < b) (hb : b ≤ d.size) (hd : d.size < 128) (hm : b - a < 2 * m) (hB : Below lt a b d) (hp1 : a ≤ p) (hp2 : p < b) :
    ∃ (x y : Nat) (wb' wp' : Bool) (D : Array α), sort_pdqsort_func_k5 α lf rf a b wb wp lim p d.toList = some (.inl ((x : Int), (y : Int), lim, wb', wp', D.toList)) ∧ x ≤ y ∧ y ≤ b ∧ y - x < b - a ∧ D.size = d.size ∧ Below lt x y D ∧
      ∀ R, PermIn x y D R → SortedIn lt x y R → PermIn a b d R ∧ SortedIn lt a b R := by
  unfold sort_pdqsort_func_k5
  have part : ∃ (x y : Nat) (wb' wp' : Bool) (D : Array α), ((sort_partition_func α lf d.toList a b p).bind fun r2139 => (quK .i64 (sb b a) 8).bind fun x2144 => if (decide ((sb r2139.1 a) < (sb b r2139.1))) then ((rf r2139.2.2 a r2139.1 lim).bind fun r2149 => sort_pdqsort_func_k2 α (ad r2139.1 1) b lim (decide (x2144 ≤ (sb r2139.1 a))) r2139.2.1 r2149) else ((rf r2139.2.2 (ad r2139.1 1) b lim).bind fun r2154 => sort_pdqsort_func_k2 α a r2139.1 lim (decide (x2144 ≤ (sb b r2139.1))) r2139.2.1 r2154)) = some (.inl ((x : Int), (y : Int), lim, wb', wp', D.toList)) ∧ x ≤ y ∧ y ≤ b ∧ y - x < b - a ∧ D.size = d.size ∧ Below lt x y D ∧
      ∀ R, PermIn x y D R → SortedIn lt x y R → PermIn a b d R ∧ SortedIn lt a b R := by
    rw [part_eq hL (by omega) hp2 hb (by omega), bind_some']
    obtain ⟨mid, ap, d4, hx⟩ : ∃ mid ap d4, Sort.partition lt d a b p = (mid, ap, d4) := ⟨_, _, _, rfl⟩
    obtain ⟨h1, h2, h3, hB1, hB2, f1, f2⟩ := round_part hS (partition_holds lt) hp1 hp2 hb hB hx
    rw [hx]
    simp only []
    have q := quK_k (b - a) 8 (by omega) (by omega)
    rw [show ((8 : Nat) : Int) = 8 from rfl] at q
    rw [show sb (b : Int) (a : Int) = ((b - a : Nat) : Int) from by rw [sbn (by omega) (by omega) (by omega) (by omega)]; omega, q, bind_some', show sb (mid : Int) (a : Int) = ((mid - a : Nat) : Int) from by rw [sbn (by omega) (by omega) (by omega) (by omega)]; omega,
      show sb (b : Int) (mid : Int) = ((b - mid : Nat) : Int) from by rw [sbn (by omega) (by omega) (by omega) (by omega)]; omega, show ad (mid : Int) 1 = ((mid + 1 : Nat) : Int) from by rw [adn (by omega) (by omega) (by omega) (by omega)]; omega]
    by_cases hc : mid - a < b - mid
    · rw [show decide (((mid - a : Nat) : Int) < ((b - mid : Nat) : Int)) = true from by simp only [decide_eq_true_eq]; omega, if_pos rfl]
      obtain ⟨L, e, k1, k2⟩ := hrf d4 a mid lim h1 (by omega) (by omega) (by omega) hB1
      obtain ⟨g1, g2⟩ := f1 L k1 k2
      rw [e, bind_some']
      exact ⟨mid + 1, b, _, _, L, rfl, by omega, Nat.le_refl _, by omega, by rw [k1.1, h3], g1, g2⟩
    · rw [show decide (((mid - a : Nat) : Int) < ((b - mid : Nat) : Int)) = false from by simp only [decide_eq_false_iff_not]; omega]
      obtain ⟨L, e, k1, k2⟩ := hrf d4 (mid + 1) b lim (by omega) (by omega) (by omega) (by omega) hB2
      obtain ⟨g1, g2⟩ := f2 L k1 k2
      simp only [Bool.false_eq_true, if_false]
      rw [e, bind_some']
      exact ⟨a, mid, _, _, L, rfl, h1, by omega, by omega, by rw [k1.1, h3], g1, g2⟩
  by_cases ha : 0 < a
  · have ht : decide (0 < (a : Int)) = true := by simp only [decide_eq_true_eq]; omega
    have e1 : sb (a : Int) 1 = ((a - 1 : Nat) : Int) := by rw [sbn (by omega) (by omega) (by omega) (by omega)]; omega
    rw [gdt ht, e1, hL.at (a - 1) p rfl rfl (by omega) (by omega), bind_some', ht]
    cases hl : lt d[a - 1]! d[p]! with
    | true => simpa using part
    | false =>
      rw [partEq_eq hL (by omega) hp2 hb (by omega)]
      obtain ⟨mid, d4, hx⟩ : ∃ mid d4, Sort.partitionEqual lt d a b p = (mid, d4) := ⟨_, _, rfl⟩
      obtain ⟨h1, h2, h3, hB1, f⟩ := round_eq hS (partitionEqual_holds lt) ha hp1 hp2 hb hB hl hx
      rw [hx]
      exact ⟨mid, b, wb, wp, d4, rfl, h2, Nat.le_refl _, by omega, h3, hB1, f⟩
  · have ht : decide (0 < (a : Int)) = false := by simp only [decide_eq_false_iff_not]; omega
    rw [gdf ht, bind_some', ht]
    simpa using part
theorem pdq_loop (hS : SWO lt) (hL : LfA lt lf) {rf : List α → Int → Int → Int → Option (List α)} {m : Nat}
    (hrf : ∀ (d : Array α) (x y : Nat) (lim : Int), x ≤ y → y ≤ d.size → d.size < 128 → y - x < m → Below lt x y d → ∃ d' : Array α, rf d.toList x y lim = some d'.toList ∧ PermIn x y d d' ∧ SortedIn lt x y d') :
    ∀ (n a b : Nat) (d : Array α) (lim : Int) (wb wp : Bool), b - a ≤ n → a ≤ b → b ≤ d.size → d.size < 128 → (b - a ≤ 12 ∨ b - a < 2 * m) → Below lt a b d →
      ∃ d' : Array α, sort_pdqsort_func_l1 α lf rf ((a : Int), (b : Int), lim, wb, wp, d.toList) = some d'.toList ∧ PermIn a b d d' ∧ SortedIn lt a b d' := by
  intro n
  induction n using Nat.strongRecOn with
  | _ n ih =>
    intro a b d lim wb wp hn hab hb hd hm hB
    have e0 : sb (b : Int) (a : Int) = ((b - a : Nat) : Int) := by rw [sbn (by omega) (by omega) (by omega) (by omega)]; omega
    by_cases h12 : b - a ≤ 12
    · refine ⟨insertionSort lt d a b, loopO_inr ?_, insertionSort_holds hS d a b hab hb⟩
      show sort_pdqsort_func_b1 α lf rf a b lim wb wp d.toList = _
      unfold sort_pdqsort_func_b1
      rw [e0, show decide (((b - a : Nat) : Int) ≤ 12) = true from by simp only [decide_eq_true_eq]; omega, if_pos rfl, ins_eq hL hb hab (by omega)]
      rfl
    · have h12f : decide (((b - a : Nat) : Int) ≤ 12) = false := by simp only [decide_eq_false_iff_not]; omega
      by_cases h0 : lim = 0
      · refine ⟨heapSort lt d a b, loopO_inr ?_, heapSort_holds hS d a b hab hb⟩
        show sort_pdqsort_func_b1 α lf rf a b lim wb wp d.toList = _
        unfold sort_pdqsort_func_b1
        rw [e0, h12f, show decide (lim = 0) = true from by simpa using h0, heap_eq hL hb (by omega) (by omega)]
        rfl
      · obtain ⟨d1, lim1, hb1, hp1⟩ : ∃ (d1 : Array α) (lim1 : Int), sort_pdqsort_func_b1 α lf rf a b lim wb wp d.toList = sort_pdqsort_func_k3 α lf rf a b wb wp lim1 d1.toList ∧ PermIn a b d d1 := by
          unfold sort_pdqsort_func_b1
          rw [e0, h12f, show decide (lim = 0) = false from by simpa using h0]
          simp only [Bool.false_eq_true, if_false]
          cases wb with
          | true => exact ⟨d, lim, rfl, permIn_refl d a b⟩
          | false =>
            obtain ⟨d1, e1, hp⟩ := brk (lf := lf) (d := d) (a := a) (b := b) (by omega) hb hd
            rw [e1]
            exact ⟨d1, sb lim 1, rfl, hp⟩
        have z1 : d1.size = d.size := hp1.1
        have hB1 := hB.perm hb hp1
        obtain ⟨d2, pv, h2, hb2, hp2, hr1, hr2⟩ : ∃ (d2 : Array α) (pv : Nat) (h2 : Int), sort_pdqsort_func_k3 α lf rf a b wb wp lim1 d1.toList = sort_pdqsort_func_k4 α lf rf a b wb wp lim1 pv h2 d2.toList ∧ PermIn a b d1 d2 ∧ a ≤ pv ∧ pv < b := by
          unfold sort_pdqsort_func_k3
          obtain ⟨p, h, e, q1, q2⟩ := piv (lt := lt) hL (d := d1) (a := a) (b := b) (by omega) (by omega) (by omega)
          rw [e, bind_some']
          simp only []
          by_cases hh : h = 2
          · rw [show decide (h = 2) = true from by simpa using hh, if_pos rfl, rev_eq (lf := lf) (by omega) (by omega) (by omega), bind_some',
              show sb (b : Int) 1 = ((b - 1 : Nat) : Int) from by rw [sbn (by omega) (by omega) (by omega) (by omega)]; omega, show sb (p : Int) (a : Int) = ((p - a : Nat) : Int) from by rw [sbn (by omega) (by omega) (by omega) (by omega)]; omega,
              show sb ((b - 1 : Nat) : Int) ((p - a : Nat) : Int) = ((b - 1 - (p - a) : Nat) : Int) from by rw [sbn (by omega) (by omega) (by omega) (by omega)]; omega]
            exact ⟨_, b - 1 - (p - a), 1, rfl, reverseRange_holds d1 a b hab (by omega), by omega, by omega⟩
          · rw [show decide (h = 2) = false from by simpa using hh]
            exact ⟨d1, p, h, rfl, permIn_refl d1 a b, q1, q2⟩
        have z2 : d2.size = d1.size := hp2.1
        have hB2 := hB1.perm (by omega) hp2
        have k5 : ∀ d3 : Array α, PermIn a b d2 d3 → sort_pdqsort_func_b1 α lf rf a b lim wb wp d.toList = sort_pdqsort_func_k5 α lf rf a b wb wp lim1 pv d3.toList →
            ∃ d' : Array α, sort_pdqsort_func_l1 α lf rf ((a : Int), (b : Int), lim, wb, wp, d.toList) = some d'.toList ∧ PermIn a b d d' ∧ SortedIn lt a b d' := by
          intro d3 hp3 he
          have z3 : d3.size = d2.size := hp3.1
          obtain ⟨x, y, wb', wp', D, e5, g1, g2, g3, g4, g5, g6⟩ := pdq_k5 hS hL hrf (lim := lim1) (wb := wb) (wp := wp) (p := pv) (d := d3) (a := a) (b := b) (by omega) (by omega) (by omega) (by omega) (hB2.perm (by omega) hp3) hr1 hr2
          obtain ⟨R, eR, hR1, hR2⟩ := ih (y - x) (by omega) x y D lim1 wb' wp' (Nat.le_refl _) g1 (by omega) (by omega) (by omega) g5
          obtain ⟨w1, w2⟩ := g6 R hR1 hR2
          exact ⟨R, (loopO_inl (he.trans e5)).trans eR, permIn_trans _ _ _ a b hp1 (permIn_trans _ _ _ a b hp2 (permIn_trans _ _ _ a b hp3 w1)), w2⟩
        have hb3 := hb1.trans hb2
        unfold sort_pdqsort_func_k4 at hb3
        rw [bind_some'] at hb3
        by_cases hw : (wb && wp && decide (h2 = 1)) = true
        · rw [if_pos hw, pinsert_eq hL (by omega) (by omega) (by omega), bind_some'] at hb3
          obtain ⟨i1, i2⟩ := partialInsertionSort_holds hS d2 a b (by omega) (by omega) hB2
          cases hq : (partialInsertionSort lt d2 a b).2 with
          | true =>
            rw [hq] at hb3
            exact ⟨_, loopO_inr hb3, permIn_trans _ _ _ a b hp1 (permIn_trans _ _ _ a b hp2 i1), i2 hq⟩
          | false =>
            rw [hq] at hb3
            exact k5 _ i1 hb3
        · rw [if_neg hw] at hb3
          exact k5 d2 (permIn_refl d2 a b) hb3
def mm : Nat → Nat
  | 0 => 0
  | k + 1 => max 13 (2 * mm k)
theorem pdq_r (hS : SWO lt) (hL : LfA lt lf) : ∀ (fu : Nat) (d : Array α) (a b : Nat) (lim : Int), a ≤ b → b ≤ d.size → d.size < 128 → b - a < mm fu → Below lt a b d →
    ∃ d' : Array α, sort_pdqsort_func_r α lf fu d.toList a b lim = some d'.toList ∧ PermIn a b d d' ∧ SortedIn lt a b d' := by
  intro fu
  induction fu with
  | zero => intro d a b lim _ _ _ h; exact absurd h (Nat.not_lt_zero _)
  | succ fu ih =>
    intro d a b lim hab hb hd hm hB
    rw [mm] at hm
    exact pdq_loop hS hL (m := mm fu) ih _ a b d lim true true (Nat.le_refl _) hab hb hd (by omega) hB
theorem srt_all (hS : SWO lt) (hL : LfA lt lf) {d : Array α} (hd : d.size < 128) : ∃ d' : Array α, srtO (fun l a b m => sort_pdqsort_func 12 α lf l a b m) d.toList = some d'.toList ∧ PermIn 0 d.size d d' ∧ SortedIn lt 0 d.size d' := by
  unfold srtO
  by_cases h1 : d.size ≤ 1
  · rw [if_pos (by simpa using h1)]
    exact ⟨d, rfl, permIn_refl d 0 d.size, fun i j h0 hij hj => absurd hj (by omega)⟩
  · rw [if_neg (by simpa using h1), if_pos (by simp; omega)]
    have hmm : mm 12 = 26624 := by decide
    obtain ⟨d', e, hp, hs⟩ := pdq_r hS hL 12 d 0 d.size (Go.Lib.bitLen d.size) (Nat.zero_le _) (Nat.le_refl _) hd (by omega) (.inl rfl)
    refine ⟨d', ?_, hp, hs⟩
    have e : sort_pdqsort_func_r α lf 12 d.toList 0 (d.toList.length : Int) (Go.Lib.bitLen d.toList.length) = some d'.toList := by
      simpa using e
    unfold sort_pdqsort_func
    simp only []
    rw [e, bind_some', if_pos (by simpa using hp.1)]
end
end Go.Proofs.Ytnmkonlfnpcoiaa.Pl
