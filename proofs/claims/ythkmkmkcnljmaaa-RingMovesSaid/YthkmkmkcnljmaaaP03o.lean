/-
  Rings as lists; RingTurns. No program in sight.
-/
import Derived.Test.YthkmkmkcnljmaaaP03n
import Derived.Test.YthkmkmkcnljmaaaCompact
namespace Go.Proofs.Ythkmkmkcnljmaaa.Pl

theorem Clone_eq (l : List Pt) (hn : l.length ≤ 1000000) : slices_Clone_api_Point_api_Point l = some l := by
  unfold slices_Clone_api_Point_api_Point
  rw [app_at (by simp [capB]; omega), bind_some', List.nil_append]
theorem Clip_eq (l : List Pt) : slices_Clip_api_Point_api_Point l = some l := by
  unfold slices_Clip_api_Point_api_Point
  rw [cut_to (Nat.le_refl _), bind_some', List.take_length]
/-! ### thin -/
theorem trim_both : ∀ (n : Nat) (l : List Pt), l.length = n → n ≤ 1000000 → ∃ v, ring_Thin_l1 l = some v ∧ ref03_Thin_l3 l = some v ∧ v.length ≤ n := by
  intro n
  induction n with
  | zero =>
    intro l hl _
    refine ⟨l, loopO_inr ?_, loopO_inr ?_, by omega⟩
    · unfold ring_Thin_b1
      rw [decide_eq_false (show ¬ 1 < (l.length : Int) by omega)]
      simp only [gd_false, bind_some', Bool.false_and, Bool.false_eq_true, if_false, Clip_eq]; rfl
    · unfold ref03_Thin_b3
      rw [decide_eq_false (show ¬ 1 < (l.length : Int) by omega)]
      simp only [gd_false, bind_some', Bool.false_and, Bool.false_eq_true, if_false]; rfl
  | succ n ih =>
    intro l hl hn
    by_cases h1 : 1 < l.length
    · have hd := decide_eq_true (show 1 < (l.length : Int) by omega)
      have e1 : ix l (sb (l.length : Int) 1) = some (l.getD (l.length - 1) (0, 0)) := by
        rw [sb_in (by omega), show (l.length : Int) - 1 = ((l.length - 1 : Nat) : Int) by omega, ix_getD (0, 0) (by omega)]
      have e0 : ix l 0 = some (l.getD 0 (0, 0)) := ix_getD (i := 0) (0, 0) (by omega)
      have e2 : cut l 0 (sb (l.length : Int) 1) = some (l.take (l.length - 1)) := by
        rw [sb_in (by omega), show (l.length : Int) - 1 = ((l.length - 1 : Nat) : Int) by omega, cut_to (by omega)]
      by_cases he : l.getD (l.length - 1) (0, 0) = l.getD 0 (0, 0)
      · obtain ⟨v, v1, v2, v3⟩ := ih (l.take (l.length - 1)) (by rw [List.length_take]; omega) (by omega)
        refine ⟨v, ?_, ?_, by omega⟩
        · unfold ring_Thin_l1 at v1 ⊢
          rw [loopO_inl (s' := l.take (l.length - 1)) (by
            unfold ring_Thin_b1
            simp only [hd, gd_true, e1, e0, bind_some', decide_eq_true he, Bool.and_self, if_true, e2])]
          exact v1
        · unfold ref03_Thin_l3 at v2 ⊢
          rw [loopO_inl (s' := l.take (l.length - 1)) (by
            unfold ref03_Thin_b3
            simp only [hd, gd_true, e1, e0, bind_some', decide_eq_true he.symm, Bool.and_self, if_true, e2])]
          exact v2
      · refine ⟨l, loopO_inr ?_, loopO_inr ?_, by omega⟩
        · unfold ring_Thin_b1
          simp only [hd, gd_true, e1, e0, bind_some', decide_eq_false he, Bool.and_false, Bool.false_eq_true, if_false, Clip_eq]; rfl
        · unfold ref03_Thin_b3
          simp only [hd, gd_true, e1, e0, bind_some', decide_eq_false (fun h => he (Eq.symm h)), Bool.and_false, Bool.false_eq_true, if_false]; rfl
    · refine ⟨l, loopO_inr ?_, loopO_inr ?_, by omega⟩
      · unfold ring_Thin_b1
        rw [decide_eq_false (show ¬ 1 < (l.length : Int) by omega)]
        simp only [gd_false, bind_some', Bool.false_and, Bool.false_eq_true, if_false, Clip_eq]; rfl
      · unfold ref03_Thin_b3
        rw [decide_eq_false (show ¬ 1 < (l.length : Int) by omega)]
        simp only [gd_false, bind_some', Bool.false_and, Bool.false_eq_true, if_false]; rfl
theorem Thin_both {l : List Pt} (hn : l.length ≤ 1000000) : ∃ v, ring_Thin l = some v ∧ ref03_Thin l = some v ∧ v.length ≤ 1000000 := by
  obtain ⟨v, v1, v2, v3⟩ := trim_both _ (dd l) rfl (Nat.le_trans (dd_len_le l) hn)
  have hdl := dd_len_le l
  refine ⟨v, ?_, ?_, by omega⟩
  · unfold ring_Thin
    rw [Clone_eq l hn, bind_some', show slices_Compact_api_Point_api_Point l = some (dd l) from Compact_eq (0, 0) l hn, bind_some', v1]
  · unfold ref03_Thin ref03_Thin_l1
    have := loopO_nat (body := fun s => ref03_Thin_b1 l s.1 s.2) (fun k => (dd (l.take k), (k : Int))) l.length v (fun k hk => by
      unfold ref03_Thin_b1 ref03_Thin_k2
      simp only
      have hc : (dd (l.take k)).length + 1 ≤ 1000000000 := by
        have := dd_len_le (l.take k)
        rw [List.length_take] at this
        omega
      rw [decide_eq_true (show (k : Int) < (l.length : Int) by omega), if_pos rfl]
      by_cases h0 : k = 0
      · subst h0
        rw [show ((0 : Nat) : Int) = 0 from rfl]
        simp only [decide_true, Bool.not_true, gd_false, bind_some', Bool.true_or, if_true]
        rw [show ix l 0 = some (l.getD 0 (0, 0)) from ix_getD (i := 0) (0, 0) (by omega), bind_some', app_at (by simp only [capB, List.length_singleton]; exact hc), bind_some']
        rw [snoc_take (0, 0) hk]
        rfl
      · rw [decide_eq_false (show ¬ (k : Int) = 0 by omega)]
        simp only [Bool.not_false, gd_true, Bool.false_or]
        rw [ix_getD (0, 0) hk, bind_some', sb_one (by omega) (by omega), ix_getD (0, 0) (show k - 1 < l.length by omega), bind_some', bind_some', dd_take (0, 0) (by omega) hk, ad_one (by omega)]
        by_cases he : l.getD k (0, 0) = l.getD (k - 1) (0, 0)
        · rw [decide_eq_true he, if_pos he, List.append_nil]; rfl
        · rw [decide_eq_false he, if_neg he]
          simp only [Bool.not_false, if_true, bind_some']
          rw [app_at (by simp [capB]; omega), bind_some']) (by
      unfold ref03_Thin_b1
      simp only
      rw [decide_eq_false (by omega), if_neg Bool.false_ne_true, List.take_length, v2]; rfl)
    exact this
/-! ### turned -/
def tnd (l : List Pt) : List Pt := (List.range l.length).map fun i => l.getD ((l.length - i) % l.length) (0, 0)
theorem getD_map_range {n i : Nat} {f : Nat → Pt} (h : i < n) : ((List.range n).map f).getD i (0, 0) = f i := by
  rw [List.getD_eq_getElem?_getD, List.getElem?_eq_getElem (by simp; exact h)]
  simp
theorem map_range_snoc {n : Nat} {f : Nat → Pt} : (List.range (n + 1)).map f = (List.range n).map f ++ [f n] := by rw [List.range_succ, List.map_append]; rfl
theorem rTurned_eq {l : List Pt} (hn : l.length ≤ 1000000) : ref03_Turned l = some (tnd l) := by
  unfold ref03_Turned ref03_Turned_l1 tnd
  exact loopO_nat (body := fun s => ref03_Turned_b1 l s.1 s.2) (fun k => ((List.range k).map fun i => l.getD ((l.length - i) % l.length) (0, 0), (k : Int))) l.length _ (fun k hk => by
    unfold ref03_Turned_b1
    simp only
    rw [decide_eq_true (show (k : Int) < (l.length : Int) by omega), if_pos rfl, sb_in (by omega), show (l.length : Int) - (k : Int) = ((l.length - k : Nat) : Int) by omega, rm_nat (by omega), bind_some', ix_getD (0, 0) (Nat.mod_lt _ (by omega)), bind_some', app_at (by simp [capB]; omega), bind_some', ad_one (by omega), map_range_snoc]) (by
    unfold ref03_Turned_b1
    simp only
    rw [decide_eq_false (by omega), if_neg Bool.false_ne_true]; rfl)
/-- The list, of which k pairs beyond the first place have changed places. -/
def rvl (l : List Pt) (k : Nat) : List Pt := (List.range l.length).map fun x => l.getD (if x = 0 then 0 else if x < k + 1 ∨ l.length - 1 - k < x then l.length - x else x) (0, 0)
theorem rvl_len (l : List Pt) (k : Nat) : (rvl l k).length = l.length := by simp [rvl]
theorem rvl_at {l : List Pt} {k x : Nat} (h : x < l.length) : (rvl l k).getD x (0, 0) = l.getD (if x = 0 then 0 else if x < k + 1 ∨ l.length - 1 - k < x then l.length - x else x) (0, 0) := getD_map_range h
theorem Reverse_eq {l : List Pt} (h1 : 1 < l.length) (hn : l.length ≤ 1000000) : slices_Reverse_api_Point_api_Point l 1 (l.length : Int) = some (tnd l) := by
  unfold slices_Reverse_api_Point_api_Point slices_Reverse_api_Point_api_Point_l1
  have hs : rvl l 0 = l := ext_getD (0, 0) (rvl_len l 0) fun i hi => by
    rw [rvl_len] at hi
    rw [rvl_at hi]
    by_cases h0 : i = 0
    · rw [if_pos h0, h0]
    · rw [if_neg h0, if_neg (by omega)]
  have he : rvl l ((l.length - 1) / 2) = tnd l := ext_getD (0, 0) (by rw [rvl_len]; simp [tnd]) fun i hi => by
    rw [rvl_len] at hi
    rw [rvl_at hi]
    unfold tnd
    rw [getD_map_range hi]
    by_cases h0 : i = 0
    · subst h0; rw [if_pos rfl, Nat.sub_zero, Nat.mod_self]
    · rw [if_neg h0, Nat.mod_eq_of_lt (by omega)]
      split
      · rfl
      · congr 1; omega
  have := loopO_nat (body := fun s => slices_Reverse_api_Point_api_Point_b1 l 1 (l.length : Int) s.1 s.2.1 s.2.2) (fun k => (rvl l k, (k : Int), (l.length : Int) - 2 - (k : Int))) ((l.length - 1) / 2) (tnd l) (fun k hk => by
    unfold slices_Reverse_api_Point_api_Point_b1
    simp only
    have w1 : wn 1 (l.length : Int) ((l.length : Int) - 2 - (k : Int)) = some ((l.length - 1 - k : Nat) : Int) := by rw [wn_at (by omega)]; congr 1; omega
    have w2 : wn 1 (l.length : Int) (k : Int) = some ((k + 1 : Nat) : Int) := by rw [wn_at (by omega)]; congr 1; omega
    have hl := rvl_len l k
    rw [decide_eq_true (show (k : Int) < (l.length : Int) - 2 - (k : Int) by omega), if_pos rfl, w1, w2]
    simp only [bind_some']
    rw [ix_getD (0, 0) (show l.length - 1 - k < (rvl l k).length by omega), bind_some', ix_getD (0, 0) (show k + 1 < (rvl l k).length by omega), bind_some', bind_some', put_nat (by omega), bind_some', bind_some', put_nat (by rw [List.length_set]; omega), bind_some', ad_one (by omega), sb_in (by omega), show (l.length : Int) - 2 - (k : Int) - 1 = (l.length : Int) - 2 - ((k + 1 : Nat) : Int) by omega]
    congr 3
    refine ext_getD (0, 0) (by simp only [List.length_set, rvl_len]) fun i hi => ?_
    rw [List.length_set, List.length_set, rvl_len] at hi
    rw [getD_set (by rw [List.length_set]; omega), getD_set (by omega), rvl_at (show l.length - 1 - k < l.length by omega), rvl_at (show k + 1 < l.length by omega), rvl_at hi, rvl_at hi]
    by_cases c1 : l.length - 1 - k = i
    · rw [if_pos c1]
      rw [if_neg (by omega), if_neg (by omega), if_neg (by omega), if_pos (by omega)]
      congr 1; omega
    · rw [if_neg c1]
      by_cases c2 : k + 1 = i
      · rw [if_pos c2]
        rw [if_neg (by omega), if_neg (by omega), if_neg (by omega), if_pos (by omega)]
        congr 1; omega
      · rw [if_neg c2]
        by_cases c0 : i = 0
        · rw [if_pos c0, if_pos c0]
        · rw [if_neg c0, if_neg c0]
          by_cases c3 : i < k + 1 ∨ l.length - 1 - k < i
          · rw [if_pos c3, if_pos (by omega)]
          · rw [if_neg c3, if_neg (by omega)]) (by
    unfold slices_Reverse_api_Point_api_Point_b1
    simp only
    rw [decide_eq_false (by omega), if_neg Bool.false_ne_true]
    unfold ckl
    rw [if_pos (rvl_len l _), he]; rfl)
  rw [hs] at this
  rw [show sb ((l.length : Int) - 1) 1 = (l.length : Int) - 2 - ((0 : Nat) : Int) by rw [sb_in (by omega)]; omega]
  exact this
theorem Turned_eq {l : List Pt} (hn : l.length ≤ 1000000) : ring_Turned l = some (tnd l) := by
  unfold ring_Turned ring_Turned_k1
  rw [Clone_eq l hn, bind_some']
  by_cases h1 : 1 < l.length
  · rw [decide_eq_true (show 1 < (l.length : Int) by omega), if_pos rfl, show cut l 1 (l.length : Int) = some (l.drop 1) from cut_from (a := 1) (by omega), bind_some', bind_some', Reverse_eq h1 hn, bind_some']
  · rw [decide_eq_false (show ¬ 1 < (l.length : Int) by omega), if_neg Bool.false_ne_true]
    congr 1
    refine ext_getD (0, 0) (by simp [tnd]) fun i hi => ?_
    unfold tnd
    rw [getD_map_range hi]
    have : i = 0 := by omega
    subst this
    rw [Nat.sub_zero, Nat.mod_self]

def rot (l : List Pt) (f : Nat) : List Pt := (List.range l.length).map fun i => l.getD ((f + i) % l.length) (0, 0)
theorem rot_len (l : List Pt) (f : Nat) : (rot l f).length = l.length := by simp [rot]
theorem rot_at {l : List Pt} {f i : Nat} (h : i < l.length) : (rot l f).getD i (0, 0) = l.getD ((f + i) % l.length) (0, 0) := getD_map_range h
theorem rot_rot (l : List Pt) (f g : Nat) : rot (rot l f) g = rot l (f + g) := by
  refine ext_getD (0, 0) (by rw [rot_len, rot_len, rot_len]) fun i hi => ?_
  rw [rot_len, rot_len] at hi
  rw [rot_at (by rw [rot_len]; exact hi), rot_len, rot_at (Nat.mod_lt _ (by omega)), rot_at hi, Nat.add_mod_mod, Nat.add_assoc]
theorem rot_full (l : List Pt) : rot l l.length = l := by
  refine ext_getD (0, 0) (rot_len _ _) fun i hi => ?_
  rw [rot_len] at hi
  rw [rot_at hi, Nat.add_mod_left, Nat.mod_eq_of_lt hi]
theorem rot_zero (l : List Pt) : rot l 0 = l := by
  refine ext_getD (0, 0) (rot_len _ _) fun i hi => ?_
  rw [rot_len] at hi
  rw [rot_at hi, Nat.zero_add, Nat.mod_eq_of_lt hi]
theorem rot_cut {l : List Pt} {f : Nat} (h : f < l.length) : l.drop f ++ l.take f = rot l f := by
  refine ext_getD (0, 0) (by rw [rot_len, List.length_append, List.length_drop, List.length_take]; omega) fun i hi => ?_
  rw [List.length_append, List.length_drop, List.length_take] at hi
  rw [rot_at (by omega)]
  by_cases h1 : i < l.length - f
  · rw [getD_append_left (by rw [List.length_drop]; exact h1), getD_drop, Nat.mod_eq_of_lt (by omega)]
  · rw [getD_append_right (by rw [List.length_drop]; omega), List.length_drop, getD_take (by omega), Nat.mod_eq_sub_mod (by omega), Nat.mod_eq_of_lt (by omega)]
    congr 1; omega
theorem From_eq {l : List Pt} {f : Nat} (hn : l.length ≤ 1000000) (hf : f ≤ 1000000) : ref03_From l (f : Int) = some (rot l f) := by
  unfold ref03_From ref03_From_l1 rot
  exact loopO_nat (body := fun s => ref03_From_b1 l (f : Int) s.1 s.2) (fun k => ((List.range k).map fun i => l.getD ((f + i) % l.length) (0, 0), (k : Int))) l.length _ (fun k hk => by
    unfold ref03_From_b1
    simp only
    rw [decide_eq_true (show (k : Int) < (l.length : Int) by omega), if_pos rfl, ad_in (by omega), show (f : Int) + (k : Int) = ((f + k : Nat) : Int) by omega, rm_nat (by omega), bind_some', ix_getD (0, 0) (Nat.mod_lt _ (by omega)), bind_some', app_at (by simp [capB]; omega), bind_some', ad_one (by omega), map_range_snoc]) (by
    unfold ref03_From_b1
    simp only
    rw [decide_eq_false (by omega), if_neg Bool.false_ne_true]; rfl)
/-! ### first -/
def lsP (a b : Pt) : Bool := decide (a.1 < b.1 ∨ (a.1 = b.1 ∧ a.2 < b.2))
theorem ref01_Less_eq (a b : Pt) : ref01_Less a b = some (lsP a b) := by
  unfold ref01_Less lsP
  by_cases h : a.1 = b.1
  · rw [decide_eq_true h]
    simp only [Bool.not_true, Bool.false_eq_true, if_false]
    congr 1; rw [Bool.eq_iff_iff]; simp only [decide_eq_true_eq]; omega
  · rw [decide_eq_false h]
    simp only [Bool.not_false, if_true]
    congr 1; rw [Bool.eq_iff_iff]; simp only [decide_eq_true_eq]; omega
def fm (l : List Pt) : Nat → Nat
  | 0 => 0
  | k + 1 => if lsP (l.getD k (0, 0)) (l.getD (fm l k) (0, 0)) then k else fm l k
theorem fm_lt {l : List Pt} : ∀ k, k ≤ l.length → 0 < l.length → fm l k < l.length
  | 0, _, h => h
  | k + 1, hk, h => by
    unfold fm
    split
    · omega
    · exact fm_lt k (by omega) h
theorem fm_one (l : List Pt) : fm l 1 = 0 := by unfold fm fm; split <;> rfl
theorem First_eq {l : List Pt} (hn : l.length ≤ 1000000) : ring_First l = some (rot l (fm l l.length)) := by
  unfold ring_First ring_First_l1
  exact loopO_nat (body := fun s => ring_First_b1 l s.1 s.2) (fun k => ((fm l k : Int), (k : Int))) l.length _ (fun k hk => by
    unfold ring_First_b1 ring_First_k2
    simp only
    rw [decide_eq_true (show (k : Int) < (l.length : Int) by omega), if_pos rfl, ix_getD (0, 0) hk, bind_some', ix_getD (0, 0) (fm_lt k (by omega) (by omega)), bind_some', Less_eq, bind_some', ad_one (by omega)]
    rw [show fm l (k + 1) = if lsP (l.getD k (0, 0)) (l.getD (fm l k) (0, 0)) then k else fm l k from rfl]
    unfold lsP
    split <;> rfl) (by
    unfold ring_First_b1
    simp only
    rw [decide_eq_false (by omega), if_neg Bool.false_ne_true]
    by_cases h : 0 < l.length
    · have hf := fm_lt l.length (Nat.le_refl _) h
      rw [cut_from (by omega), bind_some', Clone_eq _ (by rw [List.length_drop]; omega), bind_some', cut_to (by omega), bind_some', app_at (by rw [List.length_drop, List.length_take]; simp only [capB]; omega), bind_some', rot_cut hf]; rfl
    · have : l = [] := List.eq_nil_of_length_eq_zero (by omega)
      subst this
      rfl)
theorem rFirst_eq {l : List Pt} (hn : l.length ≤ 1000000) : ref03_First l = some (fm l l.length : Int) := by
  unfold ref03_First ref03_First_l1
  by_cases h : 0 < l.length
  · have := loopO_nat (body := fun s => ref03_First_b1 l s.1 s.2) (fun k => ((fm l (k + 1) : Int), ((k + 1 : Nat) : Int))) (l.length - 1) (fm l l.length : Int) (fun k hk => by
      unfold ref03_First_b1 ref03_First_k2
      simp only
      rw [decide_eq_true (show ((k + 1 : Nat) : Int) < (l.length : Int) by omega), if_pos rfl, ix_getD (0, 0) (show k + 1 < l.length by omega), bind_some', ix_getD (0, 0) (fm_lt (k + 1) (by omega) (by omega)), bind_some', ref01_Less_eq, bind_some', ad_one (by omega)]
      rw [show fm l (k + 1 + 1) = if lsP (l.getD (k + 1) (0, 0)) (l.getD (fm l (k + 1)) (0, 0)) then k + 1 else fm l (k + 1) from rfl]
      split <;> rfl) (by
      unfold ref03_First_b1
      simp only
      rw [decide_eq_false (by omega), if_neg Bool.false_ne_true, show l.length - 1 + 1 = l.length by omega]; rfl)
    rw [fm_one] at this
    exact this
  · have : l = [] := List.eq_nil_of_length_eq_zero (by omega)
    subst this
    refine loopO_inr ?_
    unfold ref03_First_b1
    rfl
/-! ### alike -/
def Al (a b : List Pt) : Prop := a.length = b.length ∧ (a.length = 0 ∨ ∃ k, k < b.length ∧ a = rot b k)
theorem Alike1_eq {a b : List Pt} (hab : a.length = b.length) (hn : a.length ≤ 1000000) {x : Nat} (hx : x < b.length) : ring_Alike_1 (x : Int) a b = some (decide (a = rot b x)) := by
  unfold ring_Alike_1 ring_Alike_1_l1
  have hb : ∀ k, k < a.length → ring_Alike_1_b1 (x : Int) a b (k : Int) = some (if a.getD k (0, 0) = b.getD ((x + k) % b.length) (0, 0) then .inl ((k + 1 : Nat) : Int) else .inr false) := fun k hk => by
    unfold ring_Alike_1_b1
    rw [decide_eq_true (show (k : Int) < (a.length : Int) by omega), if_pos rfl, ix_getD (0, 0) hk, bind_some', ad_in (by omega), show (x : Int) + (k : Int) = ((x + k : Nat) : Int) by omega, rm_nat (by omega), bind_some', ix_getD (0, 0) (Nat.mod_lt _ (by omega)), bind_some', ad_one (by omega)]
    by_cases h : a.getD k (0, 0) = b.getD ((x + k) % b.length) (0, 0)
    · rw [decide_eq_true h, if_pos h]; rfl
    · rw [decide_eq_false h, if_neg h]; rfl
  have := loopO_all (body := fun s => ring_Alike_1_b1 (x : Int) a b s) (fun k => (k : Int)) a.length (fun k => a.getD k (0, 0) = b.getD ((x + k) % b.length) (0, 0)) true false (fun k hk hok => by
    simp only [hb k hk, if_pos hok]) (fun k hk hok => by
    simp only [hb k hk, if_neg hok]) (by
    unfold ring_Alike_1_b1
    rw [decide_eq_false (by omega)]; rfl)
  refine (show loopO _ _ = _ from this).trans ?_
  by_cases h : a = rot b x
  · rw [decide_eq_true h, if_pos]
    intro k hk
    rw [h, rot_at (by omega)]
  · rw [decide_eq_false h, if_neg]
    intro h'
    refine h (ext_getD (0, 0) (by rw [rot_len]; exact hab) fun i hi => ?_)
    rw [h' i hi, rot_at (by omega)]
theorem Alike_eq {a b : List Pt} (hn : a.length ≤ 1000000) : ∃ r, ring_Alike a b = some r ∧ (r = true ↔ Al a b) := by
  unfold ring_Alike ring_Alike_l1
  by_cases hab : a.length = b.length
  · rw [decide_eq_true (show (a.length : Int) = (b.length : Int) by omega)]
    have hb : ∀ k, k < b.length → ring_Alike_b1 a b (k : Int) = some (if ¬ a = rot b k then .inl ((k + 1 : Nat) : Int) else .inr true) := fun k hk => by
      unfold ring_Alike_b1
      rw [decide_eq_true (show (k : Int) < (b.length : Int) by omega), if_pos rfl, Alike1_eq hab hn hk, bind_some', ad_one (by omega)]
      by_cases h : a = rot b k
      · rw [decide_eq_true h, if_pos rfl, if_neg (not_not_intro h)]; rfl
      · rw [decide_eq_false h, if_neg Bool.false_ne_true, if_pos h]
    have := loopO_all (body := fun s => ring_Alike_b1 a b s) (fun k => (k : Int)) b.length (fun k => ¬ a = rot b k) (decide ((a.length : Int) = 0)) true (fun k hk hok => by
      simp only [hb k hk, if_pos hok]) (fun k hk hok => by
      simp only [hb k hk, if_neg hok]) (by
      unfold ring_Alike_b1
      rw [decide_eq_false (by omega)]; rfl)
    refine ⟨_, this, ?_⟩
    unfold Al
    by_cases h : ∀ k, k < b.length → ¬ a = rot b k
    · rw [if_pos h, decide_eq_true_eq]
      constructor
      · intro h0; exact ⟨hab, .inl (by omega)⟩
      · rintro ⟨_, h0 | ⟨k, hk, e⟩⟩
        · omega
        · exact absurd e (h k hk)
    · rw [if_neg h]
      refine ⟨fun _ => ⟨hab, .inr (Classical.byContradiction fun hc => h fun k hk e => hc ⟨k, hk, e⟩)⟩, fun _ => rfl⟩
  · rw [decide_eq_false (show ¬ (a.length : Int) = (b.length : Int) by omega)]
    exact ⟨false, rfl, by simp [Al, hab]⟩
theorem rAlike_eq {a b : List Pt} (hn : a.length ≤ 1000000) (hm : b.length ≤ 1000000) : ∃ r, ref03_Alike a b = some r ∧ (r = true ↔ Al a b) := by
  unfold ref03_Alike ref03_Alike_l1
  rw [ref03_Same_eq a b hn, bind_some']
  by_cases hs : a = b
  · rw [decide_eq_true hs, if_pos rfl]
    refine ⟨true, rfl, fun _ => ?_, fun _ => rfl⟩
    subst hs
    refine ⟨rfl, ?_⟩
    by_cases h0 : a.length = 0
    · exact .inl h0
    · exact .inr ⟨0, by omega, (rot_zero a).symm⟩
  · rw [decide_eq_false hs, if_neg Bool.false_ne_true]
    have hb : ∀ k, k < b.length → ref03_Alike_b1 a b (k : Int) = some (if ¬ a = rot b k then .inl ((k + 1 : Nat) : Int) else .inr true) := fun k hk => by
      unfold ref03_Alike_b1
      rw [decide_eq_true (show (k : Int) < (b.length : Int) by omega), if_pos rfl, From_eq hm (by omega), bind_some', ref03_Same_eq a _ hn, bind_some', ad_one (by omega)]
      by_cases h : a = rot b k
      · rw [decide_eq_true h, if_pos rfl, if_neg (not_not_intro h)]; rfl
      · rw [decide_eq_false h, if_neg Bool.false_ne_true, if_pos h]
    have e : ∀ k, k < b.length - 1 → ref03_Alike_b1 a b ((k + 1 : Nat) : Int) = some (if ¬ a = rot b (k + 1) then .inl ((k + 1 + 1 : Nat) : Int) else .inr true) := fun k hk => hb (k + 1) (by omega)
    by_cases h0 : b.length = 0
    · refine ⟨false, loopO_inr ?_, ?_⟩
      · unfold ref03_Alike_b1
        rw [decide_eq_false (by omega)]; rfl
      · unfold Al
        constructor
        · intro h; exact absurd h Bool.false_ne_true
        · rintro ⟨h1, _⟩
          exact absurd ((List.eq_nil_of_length_eq_zero (by omega)).trans (List.eq_nil_of_length_eq_zero h0).symm) hs
    have := loopO_all (body := fun s => ref03_Alike_b1 a b s) (fun k => ((k + 1 : Nat) : Int)) (b.length - 1) (fun k => ¬ a = rot b (k + 1)) false true (fun k hk hok => by
      simp only [e k hk, if_pos hok]) (fun k hk hok => by
      simp only [e k hk, if_neg hok]) (by
      unfold ref03_Alike_b1
      rw [decide_eq_false (by omega)]; rfl)
    refine ⟨_, this, ?_⟩
    unfold Al
    by_cases h : ∀ k, k < b.length - 1 → ¬ a = rot b (k + 1)
    · rw [if_pos h]
      constructor
      · intro h; exact absurd h Bool.false_ne_true
      · rintro ⟨h1, h2 | ⟨k, hk, e⟩⟩
        · omega
        · by_cases hk0 : k = 0
          · subst hk0; rw [rot_zero] at e; exact absurd e hs
          · exact absurd (by rwa [show k - 1 + 1 = k by omega]) (h (k - 1) (by omega))
    · rw [if_neg h]
      refine ⟨fun _ => ?_, fun _ => rfl⟩
      have hx : ∃ k, k < b.length ∧ a = rot b k := Classical.byContradiction fun hc => h fun k hk e => hc ⟨k + 1, by omega, e⟩
      obtain ⟨k, hk, e⟩ := hx
      exact ⟨by rw [e, rot_len], .inr ⟨k, hk, e⟩⟩
theorem Al_rot {l : List Pt} {s : Nat} (h : s < l.length) : Al l (rot l s) ∧ Al (rot l s) l := by
  unfold Al
  rw [rot_len]
  refine ⟨⟨rfl, .inr ?_⟩, rfl, .inr ⟨s, h, rfl⟩⟩
  by_cases h0 : s = 0
  · exact ⟨0, by omega, by rw [h0, rot_zero, rot_zero]⟩
  · refine ⟨l.length - s, by omega, ?_⟩
    rw [rot_rot, show s + (l.length - s) = l.length by omega, rot_full]
theorem law03_RingTurns_true (x0 : List (Int × Int)) (x1 : List (Int × Int)) (x2 : Int) (k0 : ∀ y2 ∈ x0, I64 y2.1 ∧ I64 y2.2) (k1 : ∀ y2 ∈ x1, I64 y2.1 ∧ I64 y2.2) (k2 : I64 x2) : law03_RingTurns x0 x1 x2 = some true := by
  unfold law03_RingTurns
  have hn := take40 x0
  have hm := take40 x1
  rw [Cut_eq, bind_some', Cut_eq, bind_some', Ofs_eq _ (by omega), bind_some', Ofs_eq _ (by omega), bind_some']
  generalize x0.take 40 = l at hn
  generalize x1.take 40 = m at hm
  obtain ⟨v, v1, v2, v3⟩ := Thin_both (l := l) (by omega)
  have hr := rot_len l (fm l l.length)
  have ht : (tnd l).length = l.length := by simp [tnd]
  rw [v1, bind_some', v2, bind_some', law03_Same_eq v v v3, bind_some', decide_eq_true rfl]
  simp only [Bool.not_true, Bool.not_false, gd_true, Turned_eq (show l.length ≤ 1000000 by omega), rTurned_eq (show l.length ≤ 1000000 by omega), bind_some', law03_Same_eq (tnd l) (tnd l) (by omega), decide_true, Bool.or_false, First_eq (show l.length ≤ 1000000 by omega), rFirst_eq (show l.length ≤ 1000000 by omega)]
  have hfm : fm l l.length ≤ 1000000 := by
    by_cases h : 0 < l.length
    · have := fm_lt l.length (Nat.le_refl _) h; omega
    · rw [show l.length = 0 by omega]; exact Nat.zero_le _
  rw [From_eq (by omega) hfm]
  simp only [bind_some', law03_Same_eq (rot l (fm l l.length)) (rot l (fm l l.length)) (by omega), decide_true, Bool.not_true, Bool.not_false, gd_true]
  obtain ⟨r1, e1, q1⟩ := Alike_eq (a := l) (b := m) (by omega)
  obtain ⟨r2, e2, q2⟩ := rAlike_eq (a := l) (b := m) (by omega) (by omega)
  have hrr : r1 = r2 := by rw [Bool.eq_iff_iff, q1, q2]
  rw [e1, e2, hrr]
  simp only [Bool.not_false, gd_true, bind_some', beq_self_eq_true, Bool.not_true, Bool.or_false, Bool.false_eq_true, if_false]
  unfold law03_RingTurns_l1
  have fin : ∀ c : List Pt, c.length ≤ 1000000 → Al l c → Al c l → ((law03_known).bind fun r245 => (gd r245 (ring_Alike l c) false).bind fun r246 => (gd (r245 && r246) (ring_Alike c l) false).bind fun r247 => some ((r245 && r246) && r247)) = some true := by
    intro c hc a1 a2
    obtain ⟨r3, e3, q3⟩ := Alike_eq (a := l) (b := c) (by omega)
    obtain ⟨r4, e4, q4⟩ := Alike_eq (a := c) (b := l) hc
    have := q3.2 a1
    have := q4.2 a2
    subst r3
    subst r4
    rw [known03, bind_some', gd_true, e3, bind_some']
    simp only [Bool.and_self, gd_true, e4, bind_some']
  by_cases h0 : l.length = 0
  · refine loopO_inr ?_
    unfold law03_RingTurns_b1
    simp only
    have : l = [] := List.eq_nil_of_length_eq_zero h0
    rw [decide_eq_false (by omega), if_neg Bool.false_ne_true, fin [] (by simp) (by rw [this]; exact ⟨rfl, .inl rfl⟩) (by rw [this]; exact ⟨rfl, .inl rfl⟩)]; rfl
  · have hw : ∃ s : Nat, s < l.length ∧ (rmK (IntKind.u64.wrap x2) (IntKind.u64.wrap (l.length : Int))).bind (fun x => some (IntKind.i64.wrap x)) = some (s : Int) := by
      have hw : 0 ≤ IntKind.u64.wrap x2 ∧ IntKind.u64.wrap x2 ≤ 18446744073709551615 := by
        rw [show IntKind.u64.wrap x2 = x2 % 18446744073709551616 by simp [IntKind.wrap, IntKind.bits, IntKind.signed]]; omega
      rw [IntWalk.u64_in (l.length : Int) (by omega)]
      unfold rmK
      rw [if_neg (by omega), bind_some']
      have h1 := Int.emod_nonneg (IntKind.u64.wrap x2) (show (l.length : Int) ≠ 0 by omega)
      have h2 := Int.emod_lt_of_pos (IntKind.u64.wrap x2) (show (0 : Int) < l.length by omega)
      rw [Int.tmod_eq_emod_of_nonneg hw.1, IntWalk.i64_in _ (by omega)]
      refine ⟨(IntKind.u64.wrap x2 % (l.length : Int)).toNat, by omega, ?_⟩
      congr 1; omega
    obtain ⟨s, hs, es⟩ := hw
    have hg := Al_rot hs
    have := loopO_nat (body := fun s => law03_RingTurns_b1 x2 l s.1 s.2) (fun k => ((List.range k).map fun i => l.getD ((s + i) % l.length) (0, 0), (k : Int))) l.length true (fun k hk => by
      unfold law03_RingTurns_b1
      simp only
      rw [decide_eq_true (show (k : Int) < (l.length : Int) by omega), if_pos rfl]
      obtain ⟨x, ex, ew⟩ := obind es
      rw [ex, bind_some', ← osome ew, ad_in (by omega), show (s : Int) + (k : Int) = ((s + k : Nat) : Int) by omega, rm_nat (by omega), bind_some', ix_getD (0, 0) (Nat.mod_lt _ (by omega)), bind_some', app_at (by simp [capB]; omega), bind_some', ad_one (by omega), map_range_snoc]) (by
      unfold law03_RingTurns_b1
      simp only
      rw [decide_eq_false (by omega), if_neg Bool.false_ne_true]
      rw [show (List.range l.length).map (fun i => l.getD ((s + i) % l.length) (0, 0)) = rot l s from rfl, fin _ (by rw [rot_len]; omega) hg.1 hg.2]; rfl)
    exact this
end Go.Proofs.Ythkmkmkcnljmaaa.Pl
