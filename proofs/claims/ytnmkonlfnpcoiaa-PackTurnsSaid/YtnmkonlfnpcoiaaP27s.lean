import Derived.Test.YtnmkonlfnpcoiaaSall
import Derived.Test.YtnmkonlfnpcoiaaLib
import Derived.Sort.LotA
import Derived.Sort.LotB
import Derived.Sort.LotC
import Derived.Sort.LotD3
namespace Go.Proofs.Ytnmkonlfnpcoiaa.Pl
open Go.Proofs.Ytnmkonlfnpcoiaa Go.Sort
set_option linter.unusedVariables false
section
variable {α : Type} [Inhabited α] {lt : α → α → Bool} {lf : List α → Int → Int → Option Bool}
def LfA (lt : α → α → Bool) (lf : List α → Int → Int → Option Bool) : Prop := ∀ (d : Array α) (i j : Int), 0 ≤ i → 0 ≤ j → i.toNat < d.size → j.toNat < d.size → lf d.toList i j = some (lt d[i.toNat]! d[j.toNat]!)
theorem LfA.at (h : LfA lt lf) {d : Array α} {x y : Int} (i j : Nat) (hx : x = i) (hy : y = j) (hi : i < d.size) (hj : j < d.size) : lf d.toList x y = some (lt d[i]! d[j]!) := by
  subst hx; subst hy
  have := h d i j (by omega) (by omega) (by simpa using hi) (by simpa using hj)
  simpa using this
theorem swO_at {d : Array α} {x y : Int} (i j : Nat) (hx : x = i) (hy : y = j) (hi : i < d.size) (hj : j < d.size) : swO d.toList x y = some (swp d i j).toList := by
  subst hx; subst hy
  unfold swO
  have h1 : ix d.toList (i : Int) = some d[i]! := by
    rw [ix_at (by omega) (by simpa using hi)]; simp [hi]
  have h2 : ix d.toList (j : Int) = some d[j]! := by
    rw [ix_at (by omega) (by simpa using hj)]; simp [hj]
  rw [h1, bind_some', h2, bind_some', put_nat (by simpa using hi), bind_some', put_nat (by simpa using hj)]
  congr 1
  rw [swp, Array.toList_setIfInBounds, Array.toList_setIfInBounds]
theorem adn {x y : Int} (h : -1000000000 ≤ x) (h' : x ≤ 3000000000) (k : -1000000000 ≤ y) (k' : y ≤ 3000000000) : ad x y = x + y := ad_in (by omega)
theorem sbn {x y : Int} (h : -1000000000 ≤ x) (h' : x ≤ 3000000000) (k : -1000000000 ≤ y) (k' : y ≤ 3000000000) : sb x y = x - y := sb_in (by omega)
theorem gdt {β : Type} {c : Bool} {o : Option β} {d : β} (h : c = true) : gd c o d = o := by rw [h]; rfl
theorem gdf {β : Type} {c : Bool} {o : Option β} {d : β} (h : c = false) : gd c o d = some d := by rw [h]; rfl
theorem ins_in (hL : LfA lt lf) (a i : Nat) (hi : i < 1000000000) : ∀ (j : Nat) (d : Array α), j < d.size → j < 1000000000 →
    sort_insertionSort_func_l2 α lf a i ((j : Int), d.toList) = some (.inl (((i + 1 : Nat) : Int), (insInner lt a j d).toList)) := by
  intro j
  induction j with
  | zero =>
    intro d hd _
    refine loopO_inr ?_
    show sort_insertionSort_func_b2 α lf a i ((0 : Nat) : Int) d.toList = _
    unfold sort_insertionSort_func_b2
    have hc : decide ((a : Int) < ((0 : Nat) : Int)) = false := by simp
    rw [gdf hc, bind_some', hc]
    simp only [Bool.false_and, Bool.false_eq_true, if_false, Option.map_some, insInner]
    rw [adn (by omega) (by omega) (by omega) (by omega)]; rfl
  | succ j ih =>
    intro d hd hj
    have hb : sb (((j + 1 : Nat) : Int)) 1 = (j : Int) := by rw [sbn (by omega) (by omega) (by omega) (by omega)]; omega
    by_cases hc : a < j + 1
    · have hd' : decide ((a : Int) < ((j + 1 : Nat) : Int)) = true := by simp only [decide_eq_true_eq]; omega
      have hl := hL.at (d := d) (x := ((j + 1 : Nat) : Int)) (y := sb ((j + 1 : Nat) : Int) 1) (j + 1) j rfl hb hd (by omega)
      by_cases hx : lt d[j + 1]! d[j]! = true
      · have hsw := swO_at (d := d) (x := ((j + 1 : Nat) : Int)) (y := sb ((j + 1 : Nat) : Int) 1) (j + 1) j rfl hb hd (by omega)
        refine (loopO_inl (s' := ((j : Int), (swp d (j + 1) j).toList)) ?_).trans ((ih (swp d (j + 1) j) (by rw [swp_size]; omega) (by omega)).trans ?_)
        · show sort_insertionSort_func_b2 α lf a i ((j + 1 : Nat) : Int) d.toList = _
          unfold sort_insertionSort_func_b2
          rw [gdt hd', hl, bind_some', hd', hx, hsw]
          simp only [Bool.and_self, if_true, bind_some', hb]
        · rw [show insInner lt a (j + 1) d = insInner lt a j (swp d (j + 1) j) from by rw [insInner]; simp [hx]; omega]
      · have hx : lt d[j + 1]! d[j]! = false := by simpa using hx
        refine loopO_inr ?_
        show sort_insertionSort_func_b2 α lf a i ((j + 1 : Nat) : Int) d.toList = _
        unfold sort_insertionSort_func_b2
        rw [gdt hd', hl, bind_some', hx]
        simp only [Bool.and_false, Bool.false_eq_true, if_false, Option.map_some]
        rw [adn (by omega) (by omega) (by omega) (by omega), show insInner lt a (j + 1) d = d from by rw [insInner]; simp [hx]]; rfl
    · refine loopO_inr ?_
      show sort_insertionSort_func_b2 α lf a i ((j + 1 : Nat) : Int) d.toList = _
      unfold sort_insertionSort_func_b2
      have hc' : decide ((a : Int) < ((j + 1 : Nat) : Int)) = false := by simp only [decide_eq_false_iff_not]; omega
      rw [gdf hc', bind_some', hc']
      simp only [Bool.false_and, Bool.false_eq_true, if_false, Option.map_some]
      rw [adn (by omega) (by omega) (by omega) (by omega), show insInner lt a (j + 1) d = d from by rw [insInner]; simp; omega]; rfl
theorem insInner_size (a : Nat) : ∀ (j : Nat) (d : Array α), (insInner lt a j d).size = d.size
  | 0, d => rfl
  | j + 1, d => by
    rw [insInner]
    split
    · rw [insInner_size a j, swp_size]
    · rfl
theorem ins_eq (hL : LfA lt lf) {d : Array α} {a b : Nat} (hb : b ≤ d.size) (hab : a ≤ b) (hd : d.size < 1000000000) : sort_insertionSort_func α lf d.toList a b = some (insertionSort lt d a b).toList := by
  unfold sort_insertionSort_func insertionSort
  rw [adn (by omega) (by omega) (by omega) (by omega)]
  have key : ∀ (n i : Nat) (d : Array α), b - i = n → b ≤ d.size → d.size < 1000000000 → i ≤ d.size + 1 → sort_insertionSort_func_l1 α lf a b ((i : Int), d.toList) = some (insOuter lt a b i d).toList := by
    intro n
    induction n with
    | zero =>
      intro i d hn hb hd hi
      refine loopO_inr ?_
      show sort_insertionSort_func_b1 α lf a b (i : Int) d.toList = _
      unfold sort_insertionSort_func_b1
      rw [show insOuter lt a b i d = d from by rw [insOuter, if_neg (by omega)], show decide ((i : Int) < (b : Int)) = false from by simp only [decide_eq_false_iff_not]; omega]
      rfl
    | succ n ih =>
      intro i d hn hb hd hi
      have hi' : i < b := by omega
      refine (loopO_inl (s' := (((i + 1 : Nat) : Int), (insInner lt a i d).toList)) ?_).trans ((ih (i + 1) _ (by omega) (by rw [insInner_size]; exact hb) (by rw [insInner_size]; exact hd) (by rw [insInner_size]; omega)).trans ?_)
      · show sort_insertionSort_func_b1 α lf a b (i : Int) d.toList = _
        unfold sort_insertionSort_func_b1
        rw [show decide ((i : Int) < (b : Int)) = true from by simp only [decide_eq_true_eq]; omega, if_pos rfl]
        exact ins_in hL a i (by omega) i d (by omega) (by omega)
      · rw [show insOuter lt a b i d = insOuter lt a b (i + 1) (insInner lt a i d) from by rw [insOuter, if_pos hi']]
  exact key _ (a + 1) d rfl hb hd (by omega)
theorem sift_eq (hL : LfA lt lf) (hi first : Nat) : ∀ (n root : Nat) (d : Array α), hi - root ≤ n → first + hi ≤ d.size → d.size < 1000000000 → root ≤ d.size →
    sort_siftDown_func_l1 α lf hi first ((root : Int), d.toList) = some (siftDown lt hi first root d).toList ∧ (siftDown lt hi first root d).size = d.size := by
  intro n
  induction n with
  | zero =>
    intro root d hn hs hd hr
    have e : siftDown lt hi first root d = d := by rw [siftDown]; simp; omega
    rw [e]
    refine ⟨loopO_inr ?_, rfl⟩
    show sort_siftDown_func_b1 α lf hi first (root : Int) d.toList = _
    unfold sort_siftDown_func_b1
    rw [ml_in (by omega), adn (by omega) (by omega) (by omega) (by omega), show decide ((hi : Int) ≤ 2 * (root : Int) + 1) = true from by simp only [decide_eq_true_eq]; omega]
    rfl
  | succ n ih =>
    intro root d hn hs hd hr
    by_cases h1 : 2 * root + 1 ≥ hi
    · have e : siftDown lt hi first root d = d := by rw [siftDown, dif_pos h1]
      rw [e]
      refine ⟨loopO_inr ?_, rfl⟩
      show sort_siftDown_func_b1 α lf hi first (root : Int) d.toList = _
      unfold sort_siftDown_func_b1
      rw [ml_in (by omega), adn (by omega) (by omega) (by omega) (by omega), show decide ((hi : Int) ≤ 2 * (root : Int) + 1) = true from by simp only [decide_eq_true_eq]; omega]
      rfl
    · have bd : sort_siftDown_func_b1 α lf hi first (root : Int) d.toList = sort_siftDown_func_k2 α lf first root d.toList (((if 2 * root + 1 + 1 < hi && lt d[first + (2 * root + 1)]! d[first + (2 * root + 1) + 1]! then 2 * root + 2 else 2 * root + 1 : Nat)) : Int) := by
        unfold sort_siftDown_func_b1
        have e1 : ad (ml 2 (root : Int)) 1 = ((2 * root + 1 : Nat) : Int) := by rw [ml_in (by omega), adn (by omega) (by omega) (by omega) (by omega)]; omega
        have e2 : ad ((2 * root + 1 : Nat) : Int) 1 = ((2 * root + 2 : Nat) : Int) := by rw [adn (by omega) (by omega) (by omega) (by omega)]; omega
        have e3 : ad (first : Int) ((2 * root + 1 : Nat) : Int) = ((first + (2 * root + 1) : Nat) : Int) := by rw [adn (by omega) (by omega) (by omega) (by omega)]; omega
        have e4 : ad ((first + (2 * root + 1) : Nat) : Int) 1 = ((first + (2 * root + 1) + 1 : Nat) : Int) := by rw [adn (by omega) (by omega) (by omega) (by omega)]; omega
        rw [e1, e2, e3, e4, show decide ((hi : Int) ≤ ((2 * root + 1 : Nat) : Int)) = false from by simp only [decide_eq_false_iff_not]; omega]
        simp only [Bool.false_eq_true, if_false, bind_some']
        by_cases h2 : 2 * root + 2 < hi
        · rw [show decide (((2 * root + 2 : Nat) : Int) < (hi : Int)) = true from by simp only [decide_eq_true_eq]; omega, gdt rfl, hL.at _ _ rfl rfl (by omega) (by omega), bind_some', Bool.true_and, show decide (2 * root + 1 + 1 < hi) = true from by simp only [decide_eq_true_eq]; omega, Bool.true_and]
          split <;> rfl
        · rw [show decide (((2 * root + 2 : Nat) : Int) < (hi : Int)) = false from by simp only [decide_eq_false_iff_not]; omega, gdf rfl, bind_some', Bool.false_and, show decide (2 * root + 1 + 1 < hi) = false from by simp only [decide_eq_false_iff_not]; omega, Bool.false_and]
          simp only [Bool.false_eq_true, if_false]
      have nx : ∀ ch : Nat, (ch = 2 * root + 1 ∨ ch = 2 * root + 2) → ch < hi → siftDown lt hi first root d = (if !lt d[first + root]! d[first + ch]! then d else siftDown lt hi first ch (swp d (first + root) (first + ch))) →
          sort_siftDown_func_b1 α lf hi first (root : Int) d.toList = sort_siftDown_func_k2 α lf first root d.toList (ch : Int) →
          sort_siftDown_func_l1 α lf hi first ((root : Int), d.toList) = some (siftDown lt hi first root d).toList ∧ (siftDown lt hi first root d).size = d.size := by
        intro ch hch hlt he hb
        have e5 : ad (first : Int) (root : Int) = ((first + root : Nat) : Int) := by rw [adn (by omega) (by omega) (by omega) (by omega)]; omega
        have e6 : ad (first : Int) (ch : Int) = ((first + ch : Nat) : Int) := by rw [adn (by omega) (by omega) (by omega) (by omega)]; omega
        have hk : sort_siftDown_func_k2 α lf first root d.toList (ch : Int) = if !lt d[first + root]! d[first + ch]! then some (.inr d.toList) else some (.inl ((ch : Int), (swp d (first + root) (first + ch)).toList)) := by
          unfold sort_siftDown_func_k2
          rw [e5, e6, hL.at _ _ rfl rfl (by omega) (by omega), bind_some', swO_at _ _ rfl rfl (by omega) (by omega)]
          split <;> rfl
        rw [he]
        by_cases hx : (!lt d[first + root]! d[first + ch]!) = true
        · rw [if_pos hx]
          exact ⟨loopO_inr (hb.trans (hk.trans (if_pos hx))), rfl⟩
        · rw [if_neg hx]
          have := ih ch (swp d (first + root) (first + ch)) (by omega) (by rw [swp_size]; exact hs) (by rw [swp_size]; exact hd) (by rw [swp_size]; omega)
          exact ⟨(loopO_inl (hb.trans (hk.trans (if_neg hx)))).trans this.1, this.2.trans (swp_size _ _ _)⟩
      by_cases h2 : (decide (2 * root + 1 + 1 < hi) && lt d[first + (2 * root + 1)]! d[first + (2 * root + 1) + 1]!) = true
      · rw [if_pos h2] at bd
        have h3 : 2 * root + 2 < hi := by simp at h2; omega
        refine nx (2 * root + 2) (.inr rfl) h3 ?_ bd
        rw [siftDown, dif_neg h1, if_pos h2]
        split
        · rfl
        · first | rfl | rw [dif_pos h3]
      · rw [if_neg h2] at bd
        refine nx (2 * root + 1) (.inl rfl) (by omega) ?_ bd
        rw [siftDown, dif_neg h1, if_neg h2]
theorem heap_eq (hL : LfA lt lf) {d : Array α} {a b : Nat} (hb : b ≤ d.size) (hab : a < b) (hd : d.size < 1000000000) : sort_heapSort_func α lf d.toList a b = some (heapSort lt d a b).toList := by
  unfold sort_heapSort_func heapSort
  have e1 : sb (b : Int) (a : Int) = ((b - a : Nat) : Int) := by rw [sbn (by omega) (by omega) (by omega) (by omega)]; omega
  have e2 : sb ((b - a : Nat) : Int) 1 = ((b - a - 1 : Nat) : Int) := by rw [sbn (by omega) (by omega) (by omega) (by omega)]; omega
  rw [e1, e2, quK_nat _ (by omega), bind_some']
  have pop : ∀ (k : Nat) (d : Array α), a + k ≤ b → b ≤ d.size → d.size < 1000000000 → sort_heapSort_func_l2 α lf a (((k : Int) - 1), d.toList) = some (heapPop lt a k d).toList := by
    intro k
    induction k with
    | zero =>
      intro d _ _ _
      refine loopO_inr ?_
      show sort_heapSort_func_b2 α lf a (((0 : Nat) : Int) - 1) d.toList = _
      unfold sort_heapSort_func_b2
      rw [show decide (0 ≤ ((0 : Nat) : Int) - 1) = false from rfl]
      rfl
    | succ k ih =>
      intro d hk hb hd
      have e3 : (((k + 1 : Nat) : Int) - 1) = (k : Int) := by omega
      have e4 : ad (a : Int) (k : Int) = ((a + k : Nat) : Int) := by rw [adn (by omega) (by omega) (by omega) (by omega)]; omega
      have hs := sift_eq (lt := lt) hL k a k 0 (swp d a (a + k)) (by omega) (by rw [swp_size]; omega) (by rw [swp_size]; exact hd) (by omega)
      rw [e3]
      refine (loopO_inl (s' := (((k : Int) - 1), (siftDown lt k a 0 (swp d a (a + k))).toList)) ?_).trans (ih _ (by omega) (by rw [hs.2, swp_size]; exact hb) (by rw [hs.2, swp_size]; exact hd))
      show sort_heapSort_func_b2 α lf a (k : Int) d.toList = _
      unfold sort_heapSort_func_b2
      rw [show decide (0 ≤ (k : Int)) = true from by simp, if_pos rfl, e4, swO_at _ _ rfl rfl (by omega) (by omega), bind_some']
      unfold sort_siftDown_func
      rw [show (0 : Int) = ((0 : Nat) : Int) from rfl, hs.1, bind_some', sbn (by omega) (by omega) (by omega) (by omega)]
  have build : ∀ (k : Nat) (d : Array α), k ≤ b - a → b ≤ d.size → d.size < 1000000000 → sort_heapSort_func_l1 α lf a b (((k : Int) - 1), d.toList) = some (heapPop lt a (b - a) (heapBuild lt (b - a) a k d)).toList := by
    intro k
    induction k with
    | zero =>
      intro d _ hb hd
      refine loopO_inr ?_
      show sort_heapSort_func_b1 α lf a b (((0 : Nat) : Int) - 1) d.toList = _
      unfold sort_heapSort_func_b1
      rw [show decide (0 ≤ ((0 : Nat) : Int) - 1) = false from rfl]
      simp only [Bool.false_eq_true, if_false]
      rw [e1, sbn (by omega) (by omega) (by omega) (by omega), pop (b - a) d (by omega) hb hd]
      rfl
    | succ k ih =>
      intro d hk hb hd
      have e3 : (((k + 1 : Nat) : Int) - 1) = (k : Int) := by omega
      have hs := sift_eq (lt := lt) hL (b - a) a (b - a - k) k d (by omega) (by omega) hd (by omega)
      rw [e3]
      refine (loopO_inl (s' := (((k : Int) - 1), (siftDown lt (b - a) a k d).toList)) ?_).trans (ih _ (by omega) (by rw [hs.2]; exact hb) (by rw [hs.2]; exact hd))
      show sort_heapSort_func_b1 α lf a b (k : Int) d.toList = _
      unfold sort_heapSort_func_b1
      rw [show decide (0 ≤ (k : Int)) = true from by simp, if_pos rfl, e1]
      unfold sort_siftDown_func
      rw [hs.1, bind_some', sbn (by omega) (by omega) (by omega) (by omega)]
  have := build ((b - a - 1) / 2 + 1) d (by omega) hb hd
  rw [show (((b - a - 1) / 2 + 1 : Nat) : Int) - 1 = (((b - a - 1) / 2 : Nat) : Int) from by omega] at this
  exact this
theorem rev_eq {d : Array α} {a b : Nat} (hb : b ≤ d.size) (hab : a < b) (hd : d.size < 1000000000) : sort_reverseRange_func α lf d.toList a b = some (reverseRange d a b).toList := by
  unfold sort_reverseRange_func reverseRange
  have key : ∀ (n i j : Nat) (d : Array α), j - i ≤ n → j < d.size → d.size < 1000000000 → i ≤ d.size → sort_reverseRange_func_l1 α ((i : Int), (j : Int), d.toList) = some (reverseLoop i j d).toList := by
    intro n
    induction n with
    | zero =>
      intro i j d hn hj hd hi
      refine loopO_inr ?_
      show sort_reverseRange_func_b1 α (i : Int) (j : Int) d.toList = _
      unfold sort_reverseRange_func_b1
      rw [show reverseLoop i j d = d from by rw [reverseLoop, if_neg (by omega)], show decide ((i : Int) < (j : Int)) = false from by simp only [decide_eq_false_iff_not]; omega]
      rfl
    | succ n ih =>
      intro i j d hn hj hd hi
      by_cases hc : i < j
      · refine (loopO_inl (s' := (((i + 1 : Nat) : Int), ((j - 1 : Nat) : Int), (swp d i j).toList)) ?_).trans ((ih (i + 1) (j - 1) (swp d i j) (by omega) (by rw [swp_size]; omega) (by rw [swp_size]; exact hd) (by rw [swp_size]; omega)).trans ?_)
        · show sort_reverseRange_func_b1 α (i : Int) (j : Int) d.toList = _
          unfold sort_reverseRange_func_b1
          rw [show decide ((i : Int) < (j : Int)) = true from by simp only [decide_eq_true_eq]; omega, if_pos rfl, swO_at _ _ rfl rfl (by omega) (by omega), bind_some', adn (by omega) (by omega) (by omega) (by omega), sbn (by omega) (by omega) (by omega) (by omega)]
          congr 3
          congr 1
          omega
        · rw [show reverseLoop i j d = reverseLoop (i + 1) (j - 1) (swp d i j) from by rw [reverseLoop, if_pos hc]]
      · refine loopO_inr ?_
        show sort_reverseRange_func_b1 α (i : Int) (j : Int) d.toList = _
        unfold sort_reverseRange_func_b1
        rw [show reverseLoop i j d = d from by rw [reverseLoop, if_neg (by omega)], show decide ((i : Int) < (j : Int)) = false from by simp only [decide_eq_false_iff_not]; omega]
        rfl
  rw [sbn (by omega) (by omega) (by omega) (by omega), show ((b : Int) - 1) = ((b - 1 : Nat) : Int) from by omega]
  exact key _ a (b - 1) d (Nat.le_refl _) (by omega) hd (by omega)
end
end Go.Proofs.Ytnmkonlfnpcoiaa.Pl
