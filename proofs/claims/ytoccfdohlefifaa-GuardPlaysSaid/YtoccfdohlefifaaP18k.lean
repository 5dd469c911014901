import Derived.Test.YtoccfdohlefifaaP18q
namespace Go.Proofs.Ytoccfdohlefifaa.Pl
set_option maxRecDepth 4000
theorem Ofs_eq (l : List Pt) (hn : l.length ≤ 1000000) : law01_Ofs l = some l := by
  unfold law01_Ofs law01_Ofs_l1
  have := loopO_nat (body := fun s => law01_Ofs_b1 l s.1 s.2) (fun k => (l.take k, (k : Int))) l.length l (fun k hk => by
    unfold law01_Ofs_b1
    simp only [dlt hk, if_true, ix_getD (0, 0) hk, bind_some', law01_Of]
    rw [app_at (by simp [capB]; omega), bind_some', ad_one (by omega), ← snoc_take (0, 0) hk]) (by
    unfold law01_Ofs_b1
    simp only [dnlt (Nat.lt_irrefl _), List.take_length]; rfl)
  exact this
theorem ref03_Same_eq (a b : List Pt) (hn : a.length ≤ 1000000) : ref03_Same a b = some (decide (a = b)) := by
  unfold ref03_Same ref03_Same_l1
  by_cases hl : a.length = b.length
  · have hd : decide ((a.length : Int) = (b.length : Int)) = true := by simp only [decide_eq_true_eq]; omega
    simp only [hd, Bool.not_true, Bool.false_eq_true, if_false]
    have := loopO_all (body := fun s => ref03_Same_b1 a b s) (fun k => (k : Int)) a.length (fun k => a.getD k (0, 0) = b.getD k (0, 0)) true false (fun k hk hok => by
      unfold ref03_Same_b1
      simp only [dlt hk, if_true, ix_getD (0, 0) hk, ix_getD (0, 0) (show k < b.length by omega), bind_some', hok, decide_true, Bool.not_true, Bool.false_eq_true, if_false, ad_one (show k < 1000000000 by omega)]) (fun k hk hok => by
      unfold ref03_Same_b1
      simp only [dlt hk, if_true, ix_getD (0, 0) hk, ix_getD (0, 0) (show k < b.length by omega), bind_some', decide_eq_false hok, Bool.not_false]; rfl) (by
      unfold ref03_Same_b1
      simp only [dnlt (Nat.lt_irrefl _)]; rfl)
    refine (show loopO _ _ = _ from this).trans ?_
    congr 1
    by_cases h : a = b
    · subst h
      rw [if_pos (fun _ _ => rfl), decide_eq_true rfl]
    · rw [if_neg (fun hh => h (ext_getD (0, 0) hl hh)), decide_eq_false h]
  · have hd : decide ((a.length : Int) = (b.length : Int)) = false := by simp only [decide_eq_false_iff_not]; omega
    simp only [hd, Bool.not_false, if_true]
    rw [decide_eq_false (fun h => hl (by rw [h]))]
theorem law03_Same_eq (a b : List Pt) (hn : a.length ≤ 1000000) : law03_Same a b = some (decide (a = b)) := by
  unfold law03_Same
  rw [Ofs_eq a hn, bind_some', ref03_Same_eq a b hn]; rfl
def ltP (a b : Pt) : Bool := decide (a.1 < b.1) || (decide (a.1 = b.1) && decide (a.2 < b.2))
theorem ltP_t {a b : Pt} : ltP a b = true ↔ a.1 < b.1 ∨ a.1 = b.1 ∧ a.2 < b.2 := by simp [ltP]
theorem ltP_f {a b : Pt} : ltP a b = false ↔ ¬ (a.1 < b.1 ∨ a.1 = b.1 ∧ a.2 < b.2) := by rw [← ltP_t]; simp
theorem wkP : Wk ltP := ⟨fun x => by rw [ltP_f]; omega, fun h1 h2 => by rw [ltP_t] at *; omega, fun h1 h2 => by rw [ltP_f] at *; omega⟩
theorem Points_eq (l : List Pt) (hl : l.length ≤ 1000000) : order_Points l = some (isort ltP l) := by
  unfold order_Points
  rw [show order_sorted_api_Point_Less l = some (isort ltP l) from sorted_eq (ahead := exact_Less) wkP l hl fun x _ y _ => rfl]; rfl
theorem refLess_eq (a b : Pt) : ref01_Less a b = some (ltP a b) := by
  unfold ref01_Less ltP
  by_cases h : a.1 = b.1
  · simp [h]
  · simp [h]
theorem refPoints_eq (l : List Pt) (hl : l.length ≤ 1000000) : ref04_Points l = some (isort ltP l) := by
  unfold ref04_Points ref04_Points_l1
  exact loopO_nat (body := fun s => ref04_Points_b1 l s.1 s.2) (fun k => (isort ltP (l.take k), (k : Int))) l.length _ (fun k hk => by
    unfold ref04_Points_b1 ref04_Points_l2
    simp only [dlt hk, if_true]
    rw [snoc_take (0, 0) hk, isort_snoc]
    have hlen : (isort ltP (l.take k)).length = k := by rw [isort_len, List.length_take]; omega
    have hi := isort_inc wkP (l.take k)
    generalize isort ltP (l.take k) = o at *
    obtain ⟨r, hr, hR⟩ := loopO_rule (body := fun s => ref04_Points_b2 l o (k : Int) s) (fun s => ∃ p : Nat, s = (p : Int) ∧ p ≤ o.length ∧ ∀ (j : Nat) y, p ≤ j → o[j]? = some y → ltP (l.getD k (0, 0)) y = true) (fun s => s.toNat) (fun r => r = .inl (insF ltP (l.getD k (0, 0)) o, ((k + 1 : Nat) : Int))) (fun s hs => by
      obtain ⟨p, rfl, hp, h2⟩ := hs
      have hend : (p = 0 ∨ ∃ y, o[p - 1]? = some y ∧ ltP (l.getD k (0, 0)) y = false) → ((cut o 0 (p : Int)).bind fun x383 => (app ([] : List Pt) x383).bind fun x385 => (app x385 [l.getD k (0, 0)]).bind fun x391 => (cut o (p : Int) (o.length : Int)).bind fun x397 => (app x391 x397).bind fun x399 => some ((Sum.inl (x399, ad (k : Int) 1)) : (List Pt × Int) ⊕ List Pt)) = some (.inl (insF ltP (l.getD k (0, 0)) o, ((k + 1 : Nat) : Int))) := fun h1 => by
        rw [cut_to hp, bind_some', app_le (by simp; omega), bind_some', List.nil_append, app_le (by simp; omega), bind_some', cut_from hp, bind_some', app_le (by simp; omega), bind_some', insF_down wkP _ hi hp h1 h2, ad_one (by omega)]
        simp
      unfold ref04_Points_b2
      by_cases h0 : p = 0
      · subst h0
        right
        refine ⟨_, ?_, rfl⟩
        have hh := hend (.inl rfl)
        simp only [Int.natCast_zero] at hh
        simp only [Int.natCast_zero, Int.lt_irrefl, decide_false, gd_false, bind_some', Bool.false_and, Bool.false_eq_true, if_false, ix_getD (0, 0) hk, hh]; rfl
      · have hd : decide ((0 : Int) < (p : Int)) = true := by simp only [decide_eq_true_eq]; omega
        have hget : o[p - 1]? = some (o.getD (p - 1) (0, 0)) := by rw [List.getD_eq_getElem?_getD, List.getElem?_eq_getElem (by omega)]; rfl
        simp only [hd, gd_true, ix_getD (0, 0) hk, sb_one (show p < 1000000000 by omega) (by omega), ix_getD (0, 0) (show p - 1 < o.length by omega), bind_some', refLess_eq, Bool.true_and]
        cases hlt : ltP (l.getD k (0, 0)) (o.getD (p - 1) (0, 0)) with
        | true =>
          left
          refine ⟨((p - 1 : Nat) : Int), rfl, ⟨p - 1, rfl, by omega, fun j y hj hy => ?_⟩, by simp only [Int.toNat_natCast]; omega⟩
          by_cases hjp : j = p - 1
          · subst hjp; rw [hget] at hy; injection hy with hy; rw [← hy]; exact hlt
          · exact h2 j y (by omega) hy
        | false =>
          right
          refine ⟨_, ?_, rfl⟩
          simp only [Bool.false_eq_true, if_false]
          rw [hend (.inr ⟨_, hget, hlt⟩)]; rfl) (s := (o.length : Int)) ⟨o.length, rfl, Nat.le_refl _, fun j y hj hy => by rw [List.getElem?_eq_none hj] at hy; cases hy⟩
    rw [hr, hR]) (by
    unfold ref04_Points_b1
    simp only [dnlt (Nat.lt_irrefl _), Bool.false_eq_true, if_false, List.take_length]; rfl)
theorem ltP_anti {a b : Pt} (h1 : ltP a b = false) (h2 : ltP b a = false) : a = b := by
  rw [ltP_f] at h1 h2
  exact Prod.ext (by omega) (by omega)
theorem Apart_eq (l : List Int) (a b : Int) (hl : l.length ≤ 1000000) : ref04_Apart l a b = some (!decide (Cm l a b)) := by
  unfold ref04_Apart ref04_Apart_l1
  have hb : ∀ k, k < l.length → ref04_Apart_b1 l a b (k : Int) = some (if ¬ (a < l.getD k 0 ∧ l.getD k 0 < b) ∧ ¬ (b < l.getD k 0 ∧ l.getD k 0 < a) then .inl ((k + 1 : Nat) : Int) else .inr true) := fun k hk => by
    unfold ref04_Apart_b1
    simp only [dlt hk, if_true, ix_getD 0 hk, bind_some', ad_one (show k < 1000000000 by omega)]
    generalize l.getD k 0 = v
    by_cases h1 : a < v <;> by_cases h2 : v < b <;> by_cases h3 : b < v <;> by_cases h4 : v < a <;> simp [h1, h2, h3, h4] <;> omega
  have := loopO_all (body := fun s => ref04_Apart_b1 l a b s) (fun k => (k : Int)) l.length (fun k => ¬ (a < l.getD k 0 ∧ l.getD k 0 < b) ∧ ¬ (b < l.getD k 0 ∧ l.getD k 0 < a)) false true (fun k hk hok => by
    simp only [hb k hk]; rw [if_pos hok]) (fun k hk hok => by
    simp only [hb k hk]; rw [if_neg hok]) (by
    unfold ref04_Apart_b1
    simp only [dnlt (Nat.lt_irrefl _)]; rfl)
  refine (show loopO _ _ = _ from this).trans ?_
  congr 1
  by_cases h : Cm l a b
  · rw [if_pos (fun k hk => h _ (getD_mem hk)), decide_eq_true h]; rfl
  · rw [if_neg (fun hh => h fun x hx => ?_), decide_eq_false h]; · rfl
    obtain ⟨i, hi, rfl⟩ := mem_getD (d := (0 : Int)) hx
    exact hh i hi
theorem refMay_eq (p : Pt) : ref01_May p = some (decide (May p)) := by
  unfold ref01_May May
  by_cases h1 : -16777216 ≤ p.1 <;> by_cases h2 : p.1 ≤ 16777216 <;> by_cases h3 : -16777216 ≤ p.2 <;> by_cases h4 : p.2 ≤ 16777216 <;> simp [h1, h2, h3, h4]
theorem all_dec (l : List Pt) {β : Type} (x y : β) : (if ∀ k, k < l.length → May (l.getD k (0, 0)) then x else y) = if (∀ p ∈ l, May p) then x else y := by
  by_cases h : ∀ p ∈ l, May p
  · rw [if_pos h, if_pos fun k hk => h _ (getD_mem hk)]
  · rw [if_neg h, if_neg]
    intro hh
    refine h fun p hp => ?_
    obtain ⟨i, hi, rfl⟩ := mem_getD (d := ((0, 0) : Pt)) hp
    exact hh i hi
theorem All_eq (l : List Pt) (hn : l.length ≤ 1000000) : ref01_All l = some (decide (∀ p ∈ l, May p)) := by
  have := loopO_all (body := fun s => ref01_All_b1 l s) (fun k => (k : Int)) l.length (fun k => May (l.getD k (0, 0))) true false (fun k hk ho => by
    unfold ref01_All_b1
    rw [dlt hk, if_pos rfl, ix_getD (0, 0) hk, bind_some', refMay_eq, bind_some', decide_eq_true ho, if_neg (by decide), ad_one (by omega)]) (fun k hk ho => by
    unfold ref01_All_b1
    rw [dlt hk, if_pos rfl, ix_getD (0, 0) hk, bind_some', refMay_eq, bind_some', decide_eq_false ho, if_pos (by decide)]; rfl) (by
    unfold ref01_All_b1
    rw [dnlt (Nat.lt_irrefl _), if_neg (by decide)]; rfl)
  rw [all_dec] at this
  refine (show ref01_All l = _ from this).trans ?_
  by_cases h : ∀ p ∈ l, May p
  · rw [if_pos h, decide_eq_true h]
  · rw [if_neg h, decide_eq_false h]
theorem ref01_Cross_eq {a b c : Pt} (ha : May a) (hb : May b) (hc : May c) : ref01_Cross a b c = some (crossZ a b c) := by
  unfold May at ha hb hc
  unfold ref01_Cross
  have q1 := ml_25 (a := a.1) (b := b.2) (by omega) (by omega)
  have q2 := ml_25 (a := b.1) (b := a.2) (by omega) (by omega)
  have q3 := ml_25 (a := b.1) (b := c.2) (by omega) (by omega)
  have q4 := ml_25 (a := c.1) (b := b.2) (by omega) (by omega)
  have q5 := ml_25 (a := c.1) (b := a.2) (by omega) (by omega)
  have q6 := ml_25 (a := a.1) (b := c.2) (by omega) (by omega)
  simp only [bind_some']
  rw [q1.1, q2.1, q3.1, q4.1, q5.1, q6.1, sb_in (x := a.1 * b.2) (by omega), ad_in (y := b.1 * c.2) (by omega), sb_in (y := c.1 * b.2) (by omega), ad_in (y := c.1 * a.2) (by omega), sb_in (y := a.1 * c.2) (by omega)]
  congr 1
  unfold crossZ
  grind
theorem ref01_Sign_eq (n : Int) : ref01_Sign n = some (sg n) := by
  unfold ref01_Sign sg
  simp only [decide_eq_true_eq]
  split <;> (try split) <;> rfl
open G3 in
theorem ref01_On_eq {a b p : Pt} (ha : May a) (hb : May b) (hp : May p) : ref01_On a b p = some (decide (On a b p)) := by
  unfold ref01_On
  by_cases hab : a = b
  · subst hab
    simp only [decide_true, if_true]
    congr 1
    rw [Bool.eq_iff_iff]
    simp only [decide_eq_true_eq, On_btw]
    constructor
    · rintro rfl; exact (On_btw _ _ _).1 (On_left _ _)
    · rintro ⟨_, h1, h2⟩
      unfold G3.btw at h1 h2
      exact pt_ext (by omega) (by omega)
  · rw [decide_eq_false hab]
    simp only [Bool.false_eq_true, if_false, ref01_Cross_eq ha hb hp, bind_some']
    have hne : b.1 - a.1 ≠ 0 ∨ b.2 - a.2 ≠ 0 := by
      rcases Int.decEq (b.1 - a.1) 0 with h | h
      · exact .inl h
      · right; intro h2; exact hab (pt_ext (by omega) (by omega))
    unfold May at ha hb hp
    have q1 := ml_25 (a := p.1 - a.1) (b := b.1 - a.1) (by omega) (by omega)
    have q2 := ml_25 (a := p.2 - a.2) (b := b.2 - a.2) (by omega) (by omega)
    have q3 := ml_25 (a := b.1 - a.1) (b := b.1 - a.1) (by omega) (by omega)
    have q4 := ml_25 (a := b.2 - a.2) (b := b.2 - a.2) (by omega) (by omega)
    rw [sb_in (x := p.1) (by omega), sb_in (x := b.1) (by omega), sb_in (x := p.2) (by omega), sb_in (x := b.2) (by omega), q1.1, q2.1, q3.1, q4.1, ad_in (by omega), ad_in (by omega)]
    congr 1
    rw [Bool.eq_iff_iff]
    simp only [Bool.and_eq_true, decide_eq_true_eq, On_btw]
    constructor
    · rintro ⟨⟨h0, h1⟩, h2⟩; exact ⟨h0, (G3.btw_iff hne h0).2 ⟨h1, h2⟩⟩
    · rintro ⟨h0, h1⟩; have := (G3.btw_iff hne h0).1 h1; exact ⟨⟨h0, this.1⟩, this.2⟩
end Go.Proofs.Ytoccfdohlefifaa.Pl
