/-
  Simple rings: the program's and the document's. No program in sight.
-/
import Derived.Test.YthkmkmkcnljmaaaP03f
namespace Go.Proofs.Ythkmkmkcnljmaaa.Pl

theorem loopO_bad {S R : Type} {body : S → Option (S ⊕ R)} (st : Nat → S) (n : Nat) (ok : Nat → Prop) (no : R) (h1 : ∀ k, k < n → ok k → body (st k) = some (.inl (st (k + 1)))) (h2 : ∀ k, k < n → ¬ ok k → body (st k) = some (.inr no)) (h : ∃ k, k < n ∧ ¬ ok k) : loopO body (st 0) = some no := by
  have hf : ∀ m, m ≤ n → (∃ k, m ≤ k ∧ k < n ∧ ¬ ok k) → loopO body (st m) = some no := fun m hm h => by
    induction hd : n - m generalizing m with
    | zero => obtain ⟨k, h4, h5, _⟩ := h; omega
    | succ d ih =>
      by_cases hk : ok m
      · rw [loopO_inl (h1 m (by omega) hk)]
        obtain ⟨k, h4, h5, h6⟩ := h
        refine ih (m + 1) (by omega) ⟨k, ?_, h5, h6⟩ (by omega)
        by_cases he : k = m
        · subst he; exact (h6 hk).elim
        · omega
      · exact loopO_inr (h2 m (by omega) hk)
  obtain ⟨k, h4, h5⟩ := h
  exact hf 0 (Nat.zero_le _) ⟨k, Nat.zero_le _, h4, h5⟩
theorem lk_up {K V : Type} [DecidableEq K] (k x : K) (v : V) : ∀ D : List (K × V), lkM (upM D k v) x = if x = k then some v else lkM D x
  | [] => rfl
  | p :: r => by
    unfold upM
    by_cases h : k = p.1
    · rw [if_pos h]
      unfold lkM
      by_cases hx : x = k
      · rw [if_pos hx, if_pos hx]
      · rw [if_neg hx, if_neg hx, if_neg (by rw [← h]; exact hx)]
    · rw [if_neg h]
      unfold lkM
      by_cases hx : x = p.1
      · rw [if_pos hx, if_neg (fun h' => h (h'.symm.trans hx)), if_pos hx]
      · rw [if_neg hx, lk_up k x v r, if_neg hx]
def mt (l : List Pt) : List (Pt × Bool) := l.foldl (fun D x => upM D x true) []
theorem mt_snoc (l : List Pt) (x : Pt) : mt (l ++ [x]) = upM (mt l) x true := by simp [mt]
theorem mt_lk (l : List Pt) (x : Pt) (k : Nat) (hk : k ≤ l.length) : (lkM (mt (l.take k)) x).getD false = true ↔ ∃ i, i < k ∧ x = l.getD i (0, 0) := by
  induction k with
  | zero => simp [mt, lkM]
  | succ k ih =>
    rw [snoc_take (0, 0) (by omega), mt_snoc, lk_up]
    by_cases h : x = l.getD k (0, 0)
    · rw [if_pos h]
      exact ⟨fun _ => ⟨k, by omega, h⟩, fun _ => rfl⟩
    · rw [if_neg h, ih (by omega)]
      constructor
      · rintro ⟨i, hi, e⟩; exact ⟨i, by omega, e⟩
      · rintro ⟨i, hi, e⟩
        refine ⟨i, ?_, e⟩
        by_cases hik : i = k
        · subst hik; exact (h e).elim
        · omega
def Dis (l : List Pt) : Prop := ∀ j, j < l.length → ∀ i, i < j → ¬ l.getD j (0, 0) = l.getD i (0, 0)
instance (l : List Pt) : Decidable (Dis l) := by unfold Dis; infer_instance
def pt (l : List Pt) (i : Nat) : Pt := l.getD i (0, 0)
/-- The class of a ring's edges i and k. -/
def clR (l : List Pt) (i k : Nat) : Int := cls (pt l i) (pt l ((i + 1) % l.length)) (pt l k) (pt l ((k + 1) % l.length))
def Adj (n i k : Nat) : Prop := k = i + 1 ∨ (i = 0 ∧ k = n - 1)
instance (n i k : Nat) : Decidable (Adj n i k) := by unfold Adj; infer_instance
def PrO (l : List Pt) (i k : Nat) : Prop := clR l i k = if Adj l.length i k then 1 else 0
instance (l : List Pt) (i k : Nat) : Decidable (PrO l i k) := by unfold PrO; infer_instance
def Prs (l : List Pt) : Prop := ∀ k, k < l.length → ∀ i, i < k → PrO l i k
instance (l : List Pt) : Decidable (Prs l) := by unfold Prs; infer_instance
def Simple (l : List Pt) : Prop := (3 ≤ l.length ∧ Ok l) ∧ Dis l ∧ Prs l
instance (l : List Pt) : Decidable (Simple l) := by unfold Simple; infer_instance
theorem Dis_ne {l : List Pt} (h : Dis l) {i j : Nat} (hi : i < l.length) (hj : j < l.length) (hij : i ≠ j) : pt l i ≠ pt l j := by
  intro e
  rcases Nat.lt_or_gt_of_ne hij with q | q
  · exact h j hj i q e.symm
  · exact h i hi j q e
theorem Dis_edge {l : List Pt} (h3 : 3 ≤ l.length) (h : Dis l) {i : Nat} (hi : i < l.length) : pt l i ≠ pt l ((i + 1) % l.length) := by
  have := Nat.mod_lt (i + 1) (show 0 < l.length by omega)
  refine Dis_ne h hi this ?_
  by_cases h1 : i + 1 = l.length
  · rw [h1, Nat.mod_self]; omega
  · rw [Nat.mod_eq_of_lt (by omega)]; omega
theorem Ok_pt {l : List Pt} (h : Ok l) {i : Nat} (hi : i < l.length) : May (pt l i) := h _ (getD_mem hi)
theorem next_lt {n i : Nat} (h : 0 < n) : (i + 1) % n < n := Nat.mod_lt _ h
section
variable {l : List Pt} (hn : l.length ≤ 1000) (h3 : 3 ≤ l.length) (hk : Ok l)
include hn h3 hk
theorem simple_b4 (hd : Dis l) {i k : Nat} (hi : i < k) (hk' : k < l.length) : ring_Simple_b4 l (i : Int) (k : Int) = some (if PrO l i k then .inl ((k + 1 : Nat) : Int) else .inr (.inr false)) := by
  unfold ring_Simple_b4
  have hi' : i < l.length := by omega
  rw [decide_eq_true (show (k : Int) < (l.length : Int) by omega), if_pos rfl, ix_getD (0, 0) hi', bind_some', ad_one (by omega), rm_nat (by omega), bind_some', ix_getD (0, 0) (next_lt (by omega)), bind_some', ix_getD (0, 0) hk', bind_some', ad_one (by omega), rm_nat (by omega), bind_some', ix_getD (0, 0) (next_lt (by omega)), bind_some']
  have hs := seg_Class_eq (Ok_pt hk hi') (Ok_pt hk (i := (i + 1) % l.length) (next_lt (by omega))) (Ok_pt hk hk') (Ok_pt hk (i := (k + 1) % l.length) (next_lt (by omega))) (Dis_edge h3 hd hi') (Dis_edge h3 hd hk')
  have hs' : seg_Class (l.getD i (0, 0)) (l.getD ((i + 1) % l.length) (0, 0)) (l.getD k (0, 0)) (l.getD ((k + 1) % l.length) (0, 0)) = some (clR l i k, 0) := by
    rw [show seg_Class (l.getD i (0, 0)) (l.getD ((i + 1) % l.length) (0, 0)) (l.getD k (0, 0)) (l.getD ((k + 1) % l.length) (0, 0)) = _ from hs]
    unfold clR
    split
    · rename_i h; rw [h]
    · rfl
  rw [hs', bind_some', sb_in (by omega), bind_some', bind_some', bind_some', bind_some']
  have ha : (decide ((k : Int) = ((i + 1 : Nat) : Int)) || (decide ((i : Int) = 0) && decide ((k : Int) = (l.length : Int) - 1))) = decide (Adj l.length i k) := by
    rw [Bool.eq_iff_iff]
    simp only [Bool.or_eq_true, Bool.and_eq_true, decide_eq_true_eq]
    unfold Adj
    omega
  rw [ha]
  have hp : (decide (Adj l.length i k) && !decide (clR l i k = 1) || !decide (Adj l.length i k) && !decide (clR l i k = 0)) = !decide (PrO l i k) := by
    rw [Bool.eq_iff_iff]
    simp only [Bool.or_eq_true, Bool.and_eq_true, Bool.not_eq_true', decide_eq_true_eq, decide_eq_false_iff_not]
    unfold PrO
    by_cases h : Adj l.length i k
    · rw [if_pos h]; simp [h]
    · rw [if_neg h]; simp [h]
  rw [hp]
  by_cases h : PrO l i k
  · rw [decide_eq_true h, if_pos h]; rfl
  · rw [decide_eq_false h, if_neg h]; rfl
theorem simple_l4 (hd : Dis l) {i : Nat} (hi : i < l.length) : ring_Simple_l4 l (i : Int) (ad (i : Int) 1) = some (if ∀ k, k < l.length - (i + 1) → PrO l i (i + 1 + k) then .inl ((i + 1 : Nat) : Int) else .inr false) := by
  unfold ring_Simple_l4
  rw [ad_one (by omega)]
  exact loopO_all (body := fun s => ring_Simple_b4 l (i : Int) s) (fun k => ((i + 1 + k : Nat) : Int)) (l.length - (i + 1)) (fun k => PrO l i (i + 1 + k)) (.inl ((i + 1 : Nat) : Int)) (.inr false)
    (fun k hk' ho => by simp only [simple_b4 hn h3 hk hd (show i < i + 1 + k by omega) (show i + 1 + k < l.length by omega), if_pos ho]; rfl)
    (fun k hk' ho => by simp only [simple_b4 hn h3 hk hd (show i < i + 1 + k by omega) (show i + 1 + k < l.length by omega), if_neg ho])
    (by
      unfold ring_Simple_b4
      rw [decide_eq_false (by omega), if_neg Bool.false_ne_true, ad_one (by omega)]; rfl)
theorem simple_l3 (hd : Dis l) : ring_Simple_l3 l 0 = some (decide (Prs l)) := by
  unfold ring_Simple_l3
  have := loopO_all (body := fun s => ring_Simple_b3 l s) (fun i => (i : Int)) l.length (fun i => ∀ k, k < l.length - (i + 1) → PrO l i (i + 1 + k)) true false
    (fun i hi ho => by
      unfold ring_Simple_b3
      rw [decide_eq_true (by omega), if_pos rfl, simple_l4 hn h3 hk hd hi, if_pos ho])
    (fun i hi ho => by
      unfold ring_Simple_b3
      rw [decide_eq_true (by omega), if_pos rfl, simple_l4 hn h3 hk hd hi, if_neg ho])
    (by
      unfold ring_Simple_b3
      rw [decide_eq_false (by omega), if_neg Bool.false_ne_true]; rfl)
  refine (show loopO _ _ = _ from this).trans ?_
  congr 1
  by_cases h : Prs l
  · rw [decide_eq_true h, if_pos fun i hi k hk' => h (i + 1 + k) (by omega) i (by omega)]
  · rw [decide_eq_false h, if_neg fun h' => h fun k hk' i hi => ?_]
    have := h' i (by omega) (k - (i + 1)) (by omega)
    rwa [show i + 1 + (k - (i + 1)) = k by omega] at this
end
theorem Simple_eq {l : List Pt} (hn : l.length ≤ 1000) : ring_Simple l = some (decide (Simple l)) := by
  unfold ring_Simple
  by_cases h3 : 3 ≤ l.length
  case neg =>
    rw [decide_eq_true (show (l.length : Int) < 3 by omega), decide_eq_false (show ¬ Simple l from fun h => h3 h.1.1)]
    rfl
  rw [decide_eq_false (show ¬ (l.length : Int) < 3 by omega), Ok_eq (by omega)]
  by_cases hk : Ok l
  case neg =>
    rw [decide_eq_false hk, decide_eq_false (show ¬ Simple l from fun h => hk h.1.2)]
    rfl
  rw [decide_eq_true hk]
  show ring_Simple_l2 l (([] : List (Pt × Bool)), 0) = _
  unfold ring_Simple_l2
  have h1 : ∀ k, k < l.length → (¬ ∃ i, i < k ∧ l.getD k (0, 0) = l.getD i (0, 0)) → ring_Simple_b2 l (mt (l.take k)) (k : Int) = some (.inl (mt (l.take (k + 1)), ((k + 1 : Nat) : Int))) := fun k hk' ho => by
    unfold ring_Simple_b2
    have hx : ¬ (lkM (mt (l.take k)) (l.getD k (0, 0))).getD false = true := by rw [mt_lk l _ k (by omega)]; exact ho
    rw [decide_eq_true (show (k : Int) < (l.length : Int) by omega), if_pos rfl, ix_getD (0, 0) hk', bind_some', if_neg hx, bind_some', ad_one (by omega), ← mt_snoc, ← snoc_take (0, 0) hk']
  by_cases hd : Dis l
  · have := loopO_nat (body := fun s => ring_Simple_b2 l s.1 s.2) (fun k => (mt (l.take k), (k : Int))) l.length (decide (Prs l)) (fun k hk' => h1 k hk' (by rintro ⟨i, hi, e⟩; exact hd k hk' i hi e)) (by
        unfold ring_Simple_b2
        simp only
        rw [decide_eq_false (by omega), if_neg Bool.false_ne_true, simple_l3 hn h3 hk hd]; rfl)
    refine (show loopO _ _ = _ from this).trans ?_
    congr 1
    rw [Bool.eq_iff_iff]
    simp only [decide_eq_true_eq]
    exact ⟨fun h => ⟨⟨h3, hk⟩, hd, h⟩, fun h => h.2.2⟩
  · rw [decide_eq_false (show ¬ Simple l from fun h => hd h.2.1)]
    exact loopO_bad (body := fun s => ring_Simple_b2 l s.1 s.2) (fun k => (mt (l.take k), (k : Int))) l.length (fun k => ¬ ∃ i, i < k ∧ l.getD k (0, 0) = l.getD i (0, 0)) false (fun k hk' ho => h1 k hk' ho) (fun k hk' ho => by
        unfold ring_Simple_b2
        have hx : (lkM (mt (l.take k)) (l.getD k (0, 0))).getD false = true := by rw [mt_lk l _ k (by omega)]; exact Classical.not_not.1 ho
        simp only
        rw [decide_eq_true (show (k : Int) < (l.length : Int) by omega), if_pos rfl, ix_getD (0, 0) hk', bind_some', if_pos hx]; rfl) (Classical.byContradiction fun hc => hd fun j hj i hi e => hc ⟨j, hj, fun ho => ho ⟨i, hi, e⟩⟩)
/-! ### the document's -/
theorem ref01_May_eq (p : Pt) : ref01_May p = some (decide (May p)) := by
  unfold ref01_May
  simp only [bind_some']
  congr 1
  rw [Bool.eq_iff_iff]
  simp only [Bool.and_eq_true, decide_eq_true_eq]
  unfold May
  omega
theorem ref01_All_eq {l : List Pt} (hn : l.length ≤ 1000000) : ref01_All l = some (decide (Ok l)) := by
  unfold ref01_All ref01_All_l1
  have hb : ∀ k, k < l.length → ref01_All_b1 l (k : Int) = some (if May (l.getD k (0, 0)) then .inl ((k + 1 : Nat) : Int) else .inr false) := fun k hk => by
    unfold ref01_All_b1
    rw [decide_eq_true (show (k : Int) < (l.length : Int) by omega), if_pos rfl, ix_getD (0, 0) hk, bind_some', ref01_May_eq, bind_some', ad_one (by omega)]
    by_cases h : May (l.getD k (0, 0))
    · rw [decide_eq_true h, if_pos h]; rfl
    · rw [decide_eq_false h, if_neg h]; rfl
  have := loopO_all (body := fun s => ref01_All_b1 l s) (fun k => (k : Int)) l.length (fun k => May (l.getD k (0, 0))) true false (fun k hk hok => by
    simp only [hb k hk, if_pos hok]) (fun k hk hok => by
    simp only [hb k hk, if_neg hok]) (by
    unfold ref01_All_b1
    rw [decide_eq_false (by omega)]; rfl)
  refine (show loopO _ _ = _ from this).trans ?_
  congr 1
  by_cases h : Ok l
  · rw [if_pos (fun k hk => h _ (getD_mem hk)), decide_eq_true h]
  · rw [if_neg (fun hh => h fun p hp => ?_), decide_eq_false h]
    obtain ⟨i, hi, rfl⟩ := mem_getD (d := ((0, 0) : Pt)) hp
    exact hh i hi
section
variable {l : List Pt} (hn : l.length ≤ 1000) (h3 : 3 ≤ l.length) (hk : Ok l)
include hn h3
theorem rsimple_l2 {i : Nat} (hi : i < l.length) : ref03_Simple_l2 l (i : Int) 0 = some (if ∀ k, k < i → ¬ l.getD i (0, 0) = l.getD k (0, 0) then .inl ((i + 1 : Nat) : Int) else .inr false) := by
  unfold ref03_Simple_l2
  exact loopO_all (body := fun s => ref03_Simple_b2 l (i : Int) s) (fun k => (k : Int)) i (fun k => ¬ l.getD i (0, 0) = l.getD k (0, 0)) (.inl ((i + 1 : Nat) : Int)) (.inr false)
    (fun k hk ho => by
      unfold ref03_Simple_b2
      rw [decide_eq_true (by omega), if_pos rfl, ix_getD (0, 0) hi, bind_some', ix_getD (0, 0) (show k < l.length by omega), bind_some', decide_eq_false ho, if_neg Bool.false_ne_true, ad_one (by omega)])
    (fun k hk ho => by
      unfold ref03_Simple_b2
      rw [decide_eq_true (by omega), if_pos rfl, ix_getD (0, 0) hi, bind_some', ix_getD (0, 0) (show k < l.length by omega), bind_some', decide_eq_true (Classical.not_not.1 ho), if_pos rfl]; rfl)
    (by
      unfold ref03_Simple_b2
      rw [decide_eq_false (by omega), if_neg Bool.false_ne_true, ad_one (by omega)]; rfl)
include hk
theorem rsimple_b4 (hd : Dis l) {i k : Nat} (hi : k < i) (hi' : i < l.length) : ref03_Simple_b4 l (i : Int) (k : Int) = some (if PrO l k i then .inl ((k + 1 : Nat) : Int) else .inr (.inr false)) := by
  unfold ref03_Simple_b4
  have hk' : k < l.length := by omega
  rw [decide_eq_true (show (k : Int) < (i : Int) by omega), if_pos rfl, ix_getD (0, 0) hi', bind_some', ad_one (by omega), rm_nat (by omega), bind_some', ix_getD (0, 0) (next_lt (by omega)), bind_some', ix_getD (0, 0) hk', bind_some', ad_one (by omega), rm_nat (by omega), bind_some', ix_getD (0, 0) (next_lt (by omega)), bind_some']
  have hs : ref02_Class (l.getD i (0, 0)) (l.getD ((i + 1) % l.length) (0, 0)) (l.getD k (0, 0)) (l.getD ((k + 1) % l.length) (0, 0)) = some (clR l k i) := by
    have := ref02_Class_eq (Ok_pt hk hi') (Ok_pt hk (i := (i + 1) % l.length) (next_lt (by omega))) (Ok_pt hk hk') (Ok_pt hk (i := (k + 1) % l.length) (next_lt (by omega)))
    rw [show ref02_Class (l.getD i (0, 0)) (l.getD ((i + 1) % l.length) (0, 0)) (l.getD k (0, 0)) (l.getD ((k + 1) % l.length) (0, 0)) = _ from this]
    unfold clR
    rw [cls_sym (Dis_edge h3 hd hk') (Dis_edge h3 hd hi')]
  rw [hs, bind_some', sb_in (x := (i : Int)) (by omega), sb_in (by omega), bind_some']
  have ha : (decide ((i : Int) - (k : Int) = 1) || decide ((i : Int) - (k : Int) = (l.length : Int) - 1)) = decide (Adj l.length k i) := by
    rw [Bool.eq_iff_iff]
    simp only [Bool.or_eq_true, decide_eq_true_eq]
    unfold Adj
    omega
  rw [ha]
  unfold ref03_Simple_k5
  by_cases h : Adj l.length k i
  · have e : PrO l k i ↔ clR l k i = 1 := by unfold PrO; rw [if_pos h]
    rw [decide_eq_true h, if_pos rfl, ad_one (by omega)]
    by_cases q : clR l k i = 1
    · rw [decide_eq_true q, if_pos (e.2 q)]; rfl
    · rw [decide_eq_false q, if_neg (fun h' => q (e.1 h'))]; rfl
  · have e : PrO l k i ↔ clR l k i = 0 := by unfold PrO; rw [if_neg h]
    rw [decide_eq_false h, if_neg Bool.false_ne_true, ad_one (by omega)]
    by_cases q : clR l k i = 0
    · rw [decide_eq_true q, if_pos (e.2 q)]; rfl
    · rw [decide_eq_false q, if_neg (fun h' => q (e.1 h'))]; rfl
theorem rsimple_l4 (hd : Dis l) {i : Nat} (hi : i < l.length) : ref03_Simple_l4 l (i : Int) 0 = some (if ∀ k, k < i → PrO l k i then .inl ((i + 1 : Nat) : Int) else .inr false) := by
  unfold ref03_Simple_l4
  exact loopO_all (body := fun s => ref03_Simple_b4 l (i : Int) s) (fun k => (k : Int)) i (fun k => PrO l k i) (.inl ((i + 1 : Nat) : Int)) (.inr false)
    (fun k hk' ho => by simp only [rsimple_b4 hn h3 hk hd hk' hi, if_pos ho])
    (fun k hk' ho => by simp only [rsimple_b4 hn h3 hk hd hk' hi, if_neg ho])
    (by
      unfold ref03_Simple_b4
      rw [decide_eq_false (by omega), if_neg Bool.false_ne_true, ad_one (by omega)]; rfl)
theorem rsimple_l3 (hd : Dis l) : ref03_Simple_l3 l 0 = some (decide (Prs l)) := by
  unfold ref03_Simple_l3
  have := loopO_all (body := fun s => ref03_Simple_b3 l s) (fun i => (i : Int)) l.length (fun i => ∀ k, k < i → PrO l k i) true false
    (fun i hi ho => by
      unfold ref03_Simple_b3
      rw [decide_eq_true (by omega), if_pos rfl, rsimple_l4 hn h3 hk hd hi, if_pos ho])
    (fun i hi ho => by
      unfold ref03_Simple_b3
      rw [decide_eq_true (by omega), if_pos rfl, rsimple_l4 hn h3 hk hd hi, if_neg ho])
    (by
      unfold ref03_Simple_b3
      rw [decide_eq_false (by omega), if_neg Bool.false_ne_true]; rfl)
  refine (show loopO _ _ = _ from this).trans ?_
  by_cases h : Prs l
  · rw [decide_eq_true h, if_pos (show ∀ i, i < l.length → ∀ k, k < i → PrO l k i from h)]
  · rw [decide_eq_false h, if_neg (show ¬ ∀ i, i < l.length → ∀ k, k < i → PrO l k i from h)]
end
theorem rSimple_eq {l : List Pt} (hn : l.length ≤ 1000) : ref03_Simple l = some (decide (Simple l)) := by
  unfold ref03_Simple
  by_cases h3 : 3 ≤ l.length
  case neg =>
    rw [decide_eq_true (show (l.length : Int) < 3 by omega), decide_eq_false (show ¬ Simple l from fun h => h3 h.1.1)]
    rfl
  rw [decide_eq_false (show ¬ (l.length : Int) < 3 by omega), ref01_All_eq (by omega)]
  by_cases hk : Ok l
  case neg =>
    rw [decide_eq_false hk, decide_eq_false (show ¬ Simple l from fun h => hk h.1.2)]
    rfl
  rw [decide_eq_true hk]
  show ref03_Simple_l1 l 0 = _
  unfold ref03_Simple_l1
  have h1 : ∀ i, i < l.length → (∀ k, k < i → ¬ l.getD i (0, 0) = l.getD k (0, 0)) → ref03_Simple_b1 l (i : Int) = some (.inl ((i + 1 : Nat) : Int)) := fun i hi ho => by
    unfold ref03_Simple_b1
    rw [decide_eq_true (by omega), if_pos rfl, rsimple_l2 hn h3 hi, if_pos ho]
  by_cases hd : Dis l
  · have := loopO_nat (body := fun s => ref03_Simple_b1 l s) (fun k => (k : Int)) l.length (decide (Prs l)) (fun k hk' => h1 k hk' (hd k hk')) (by
        unfold ref03_Simple_b1
        rw [decide_eq_false (by omega), if_neg Bool.false_ne_true, rsimple_l3 hn h3 hk hd]; rfl)
    refine (show loopO _ _ = _ from this).trans ?_
    congr 1
    rw [Bool.eq_iff_iff]
    simp only [decide_eq_true_eq]
    exact ⟨fun h => ⟨⟨h3, hk⟩, hd, h⟩, fun h => h.2.2⟩
  · rw [decide_eq_false (show ¬ Simple l from fun h => hd h.2.1)]
    exact loopO_bad (body := fun s => ref03_Simple_b1 l s) (fun k => (k : Int)) l.length (fun i => ∀ k, k < i → ¬ l.getD i (0, 0) = l.getD k (0, 0)) false (fun k hk' ho => h1 k hk' ho) (fun k hk' ho => by
        unfold ref03_Simple_b1
        rw [decide_eq_true (by omega), if_pos rfl, rsimple_l2 hn h3 hk', if_neg ho]) (Classical.byContradiction fun hc => hd fun j hj => Classical.byContradiction fun h => hc ⟨j, hj, h⟩)
end Go.Proofs.Ythkmkmkcnljmaaa.Pl
