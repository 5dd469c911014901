import Derived.Test.YtoccfdohlefifaaP18k
namespace Go.Proofs.Ytoccfdohlefifaa.Pl
set_option maxRecDepth 4000
abbrev Mr := List Int × List Pt × List (Pt × Pt)
def InR (a b c p : Pt) : Prop := On a b p ∨ On b c p ∨ On c a p ∨ (sg (crossZ a b p) = sg (crossZ b c p) ∧ sg (crossZ b c p) = sg (crossZ c a p) ∧ sg (crossZ a b p) ≠ 0)
instance (a b c p : Pt) : Decidable (InR a b c p) := by unfold InR; infer_instance
theorem refIn_eq {a b c p : Pt} (ha : May a) (hb : May b) (hc : May c) (hp : May p) : ref01_In a b c p = some (decide (InR a b c p)) := by
  unfold ref01_In InR
  rw [ref01_On_eq ha hb hp, ref01_On_eq hb hc hp, ref01_On_eq hc ha hp, ref01_Cross_eq ha hb hp, ref01_Cross_eq hb hc hp, ref01_Cross_eq hc ha hp]
  simp only [bind_some', ref01_Sign_eq]
  by_cases h1 : On a b p
  · simp [h1]
  · by_cases h2 : On b c p
    · simp [h1, h2]
    · by_cases h3 : On c a p
      · simp [h1, h2, h3]
      · simp [h1, h2, h3, Bool.and_assoc]
theorem mul_sig {x y : Int} : ¬ 0 < x * -y ↔ (0 ≤ x ∧ 0 ≤ y) ∨ (x ≤ 0 ∧ y ≤ 0) := by
  constructor
  · intro h
    rcases Int.lt_trichotomy x 0 with hx | hx | hx
    · rcases Int.lt_or_le 0 y with hy | hy
      · exact (h (Int.mul_pos_of_neg_of_neg hx (by omega))).elim
      · omega
    · omega
    · rcases Int.lt_or_le y 0 with hy | hy
      · exact (h (Int.mul_pos hx (by omega))).elim
      · omega
  · rintro (⟨h1, h2⟩ | ⟨h1, h2⟩) h
    · have := Int.mul_nonneg h1 h2
      rw [Int.mul_neg] at h; omega
    · have := Int.mul_nonneg (show 0 ≤ -x by omega) (show 0 ≤ -y by omega)
      rw [Int.neg_mul_neg] at this
      rw [Int.mul_neg] at h; omega
theorem on_edge {a b c p : Pt} (h0 : crossZ a b c ≠ 0) : On a b p ↔ crossZ a b p = 0 ∧ ((0 ≤ crossZ c a p ∧ 0 ≤ crossZ b c p) ∨ (crossZ c a p ≤ 0 ∧ crossZ b c p ≤ 0)) := by
  have hab : a ≠ b := by
    rintro rfl
    refine h0 ?_
    unfold crossZ; grind
  have r1 : crossZ p c a = crossZ c a p := by unfold crossZ; grind
  have r2 : crossZ p c b = -crossZ b c p := by unfold crossZ; grind
  have hs := G3.tri_sum a b c p
  by_cases hz : crossZ p c a = 0 ∧ crossZ p c b = 0
  · constructor
    · intro h; have := h.1; omega
    · rintro ⟨h, _⟩; omega
  · rw [G3.on_nc (a := p) (b := c) (c := a) (d := b) hab hz, r1, r2, mul_sig]
theorem InT_in3 {a b c p : Pt} (h0 : crossZ a b c ≠ 0) : InT a b c p ↔ G3.In3 (crossZ a b c) (crossZ b c p) (crossZ c a p) (crossZ a b p) := by
  constructor
  · unfold InT
    rw [if_neg h0]
    rintro (rfl | ⟨h1, h2, h3⟩)
    · have e1 : crossZ p b p = 0 := G3.crossZ_left _ _
      have e2 : crossZ c p p = 0 := G3.crossZ_right _ _
      have e3 : crossZ b c p = crossZ p b c := G3.crossZ_turn _ _ _
      rw [e1, e2, e3]
      unfold G3.In3
      omega
    · have q1 := sg_cases (crossZ a b c)
      have q2 := sg_cases (crossZ b c p)
      have q3 := sg_cases (crossZ c a p)
      have q4 := sg_cases (crossZ a b p)
      unfold G3.In3
      omega
  · exact G3.InT_of
theorem InR_iff {a b c p : Pt} : InR a b c p ↔ InT a b c p := by
  have hs := G3.tri_sum a b c p
  have q2 := sg_cases (crossZ b c p)
  have q3 := sg_cases (crossZ c a p)
  have q4 := sg_cases (crossZ a b p)
  by_cases h0 : crossZ a b c = 0
  · unfold InR InT
    rw [if_pos h0]
    constructor
    · rintro (h | h | h | h)
      · exact .inl h
      · exact .inr (.inl h)
      · exact .inr (.inr h)
      · omega
    · rintro (h | h | h)
      · exact .inl h
      · exact .inr (.inl h)
      · exact .inr (.inr (.inl h))
  · rw [InT_in3 h0]
    have t1 : crossZ b c a = crossZ a b c := G3.crossZ_turn _ _ _
    have t2 : crossZ c a b = crossZ a b c := by rw [G3.crossZ_turn, t1]
    unfold InR
    rw [on_edge h0, on_edge (a := b) (b := c) (c := a) (by omega), on_edge (a := c) (b := a) (c := b) (by omega)]
    unfold G3.In3
    omega
section
variable {K : Type} [DecidableEq K]
def AllT (D : List (K × Bool)) : Prop := ∀ e ∈ D, e.2 = true
theorem has_key : ∀ {D : List (K × Bool)} (_ : AllT D) (k : K), hasM D k = true ↔ k ∈ D.map (·.1)
  | [], _, k => by simp [hasM, lkM]
  | p :: r, h, k => by
    have hr : AllT r := fun e he => h e (List.mem_cons_of_mem _ he)
    have ih := has_key hr k
    unfold hasM lkM
    by_cases hk : k = p.1
    · rw [if_pos hk]
      simp only [List.map_cons, List.mem_cons, hk, true_or, iff_true]
      exact h p List.mem_cons_self
    · rw [if_neg hk]
      simp only [List.map_cons, List.mem_cons, hk, false_or]
      exact ih
theorem up_keys {V : Type} : ∀ (D : List (K × V)) (k : K) (v : V), (upM D k v).map (·.1) = if k ∈ D.map (·.1) then D.map (·.1) else D.map (·.1) ++ [k]
  | [], k, v => by simp [upM]
  | p :: r, k, v => by
    unfold upM
    by_cases hk : k = p.1
    · rw [if_pos hk]
      simp [hk]
    · rw [if_neg hk]
      simp only [List.map_cons, List.mem_cons, hk, false_or, up_keys r k v]
      split <;> rfl
theorem up_allT : ∀ {D : List (K × Bool)} (_ : AllT D) (k : K), AllT (upM D k true)
  | [], _, k => by intro e he; simp only [upM, List.mem_singleton] at he; rw [he]
  | p :: r, h, k => by
    have hr : AllT r := fun e he => h e (List.mem_cons_of_mem _ he)
    unfold upM
    split
    · intro e he
      rcases List.mem_cons.1 he with rfl | he
      · rfl
      · exact hr e he
    · intro e he
      rcases List.mem_cons.1 he with rfl | he
      · exact h _ List.mem_cons_self
      · exact up_allT hr k e he
theorem de_allT : ∀ {D : List (K × Bool)} (_ : AllT D) (k : K), AllT (deM D k)
  | [], _, k => by intro e he; simp only [deM, List.not_mem_nil] at he
  | p :: r, h, k => by
    have hr : AllT r := fun e he => h e (List.mem_cons_of_mem _ he)
    unfold deM
    split
    · exact hr
    · intro e he
      rcases List.mem_cons.1 he with rfl | he
      · exact h _ List.mem_cons_self
      · exact de_allT hr k e he
theorem de_keys {V : Type} : ∀ {D : List (K × V)} (k : K), (D.map (·.1)).Nodup → (deM D k).map (·.1) = (D.map (·.1)).filter fun x => !decide (x = k)
  | [], k, _ => rfl
  | p :: r, k, h => by
    simp only [List.map_cons, List.nodup_cons] at h
    unfold deM
    by_cases hk : k = p.1
    · rw [if_pos hk, List.map_cons, List.filter_cons_of_neg (by simp [hk])]
      refine (List.filter_eq_self.2 fun x hx => ?_).symm
      have : x ≠ k := fun e => h.1 (hk ▸ e ▸ hx)
      simp [this]
    · rw [if_neg hk, List.map_cons, List.map_cons, List.filter_cons_of_pos (by simpa using fun e => hk e.symm), de_keys k h.2]
end
theorem btw_or (a b : Pt) : btw a b = (a, b) ∨ btw a b = (b, a) := by unfold btw; split <;> simp
theorem btw_pair {e : Pt × Pt} {a b : Pt} : btw e.1 e.2 = btw a b ↔ (e.1 = a ∧ e.2 = b) ∨ (e.1 = b ∧ e.2 = a) := by
  constructor
  · intro h
    rcases btw_or e.1 e.2 with h1 | h1 <;> rcases btw_or a b with h2 | h2 <;> rw [h1, h2] at h <;> injection h with h3 h4
    · exact .inl ⟨h3, h4⟩
    · exact .inr ⟨h3, h4⟩
    · exact .inr ⟨h4, h3⟩
    · exact .inl ⟨h4, h3⟩
  · rintro (⟨h1, h2⟩ | ⟨h1, h2⟩)
    · rw [h1, h2]
    · rw [h1, h2, btw_sym]
theorem joins_eq (e : Pt × Pt) (a b : Pt) : ref18_joins e a b = some (decide (btw e.1 e.2 = btw a b)) := by
  unfold ref18_joins
  simp only [bind_some']
  congr 1
  rw [Bool.eq_iff_iff]
  simp only [Bool.or_eq_true, Bool.and_eq_true, decide_eq_true_eq, btw_pair]
def kE (m : Mr) : List (Pt × Pt) := m.2.2.map fun e => btw e.1 e.2
theorem refHas_eq (m : Mr) (p : Pt) (hn : m.2.1.length ≤ 1000) : ref18_Has m p = some (decide (p ∈ m.2.1)) := by
  unfold ref18_Has
  have := loopO_all (body := fun s => ref18_Has_b1 m p s) (fun k => (k : Int)) m.2.1.length (fun k => m.2.1.getD k (0, 0) ≠ p) false true (fun k hk ho => by
    show ref18_Has_b1 _ _ _ = _
    unfold ref18_Has_b1
    rw [dlt hk, if_pos rfl, ix_getD (0, 0) hk, bind_some', decide_eq_false ho, if_neg (by decide), ad_one (by omega)]) (fun k hk ho => by
    show ref18_Has_b1 _ _ _ = _
    unfold ref18_Has_b1
    rw [dlt hk, if_pos rfl, ix_getD (0, 0) hk, bind_some', decide_eq_true (Classical.not_not.1 ho), if_pos rfl]; rfl) (by
    show ref18_Has_b1 _ _ _ = _
    unfold ref18_Has_b1
    rw [dnlt (Nat.lt_irrefl _), if_neg (by decide)]; rfl)
  refine (show ref18_Has_l1 m p 0 = _ from this).trans ?_
  congr 1
  by_cases h : p ∈ m.2.1
  · rw [decide_eq_true h, if_neg]
    intro hh
    obtain ⟨i, hi, he⟩ := mem_getD (d := ((0, 0) : Pt)) h
    exact hh i hi he
  · rw [decide_eq_false h, if_pos]
    intro k hk he
    exact h (he ▸ getD_mem hk)
theorem refJoined_eq (m : Mr) (a b : Pt) (hn : m.2.2.length ≤ 1000) : ref18_Joined m a b = some (decide (btw a b ∈ kE m)) := by
  unfold ref18_Joined
  have := loopO_all (body := fun s => ref18_Joined_b1 m a b s) (fun k => (k : Int)) m.2.2.length (fun k => btw (m.2.2.getD k ((0, 0), (0, 0))).1 (m.2.2.getD k ((0, 0), (0, 0))).2 ≠ btw a b) false true (fun k hk ho => by
    show ref18_Joined_b1 _ _ _ _ = _
    unfold ref18_Joined_b1
    rw [dlt hk, if_pos rfl, ix_getD ((0, 0), (0, 0)) hk, bind_some', joins_eq, bind_some', decide_eq_false ho, if_neg (by decide), ad_one (by omega)]) (fun k hk ho => by
    show ref18_Joined_b1 _ _ _ _ = _
    unfold ref18_Joined_b1
    rw [dlt hk, if_pos rfl, ix_getD ((0, 0), (0, 0)) hk, bind_some', joins_eq, bind_some', decide_eq_true (Classical.not_not.1 ho), if_pos rfl]; rfl) (by
    show ref18_Joined_b1 _ _ _ _ = _
    unfold ref18_Joined_b1
    rw [dnlt (Nat.lt_irrefl _), if_neg (by decide)]; rfl)
  refine (show ref18_Joined_l1 m a b 0 = _ from this).trans ?_
  congr 1
  unfold kE
  by_cases h : btw a b ∈ m.2.2.map fun e => btw e.1 e.2
  · rw [decide_eq_true h, if_neg]
    intro hh
    obtain ⟨e, he, hb⟩ := List.mem_map.1 h
    obtain ⟨i, hi, hx⟩ := mem_getD (d := (((0, 0), (0, 0)) : Pt × Pt)) he
    exact hh i hi (by rw [hx]; exact hb)
  · rw [decide_eq_false h, if_pos]
    intro k hk he
    exact h (List.mem_map.2 ⟨_, getD_mem hk, he⟩)
def Hit (a b c p : Pt) : Prop := p ≠ a ∧ p ≠ b ∧ p ≠ c ∧ May p ∧ InT a b c p
instance (a b c p : Pt) : Decidable (Hit a b c p) := by unfold Hit; infer_instance
def NoR (m : Mr) (a b c : Pt) : Prop := a = c ∨ a = b ∨ b = c ∨ ¬ (May a ∧ May b ∧ May c) ∨ a ∉ m.2.1 ∨ b ∉ m.2.1 ∨ c ∉ m.2.1
instance (m : Mr) (a b c : Pt) : Decidable (NoR m a b c) := by unfold NoR; infer_instance
def whyR (m : Mr) (a b c : Pt) : Int :=
  if NoR m a b c then 1 else if ¬ (Cm m.1 a.1 c.1 ∧ Cm m.1 a.2 c.2) then 2 else if btw a c ∈ kE m then 3 else if ∃ p ∈ m.2.1, Hit a b c p then 4 else 0
theorem chain_eq {R : Type} (B1 B2 B3 A H1 H2 H3 : Bool) (f : Bool → Option R) :
    ((some (B1 || B2)).bind fun x => (gd (!(x || B3)) (some A) false).bind fun r1 => (some ((x || B3) || (!r1))).bind fun x1 => (gd (!x1) (some H1) false).bind fun r2 => (gd (!(x1 || (!r2))) (some H2) false).bind fun r3 => (gd (!((x1 || (!r2)) || (!r3))) (some H3) false).bind fun r4 => (some (((x1 || (!r2)) || (!r3)) || (!r4))).bind f) =
    f (B1 || (B2 || (B3 || (!A || (!H1 || (!H2 || !H3)))))) := by
  cases B1 <;> cases B2 <;> cases B3 <;> cases A <;> cases H1 <;> cases H2 <;> cases H3 <;> rfl
theorem refWhy_l1 (m : Mr) (a b c : Pt) (ha : May a) (hb : May b) (hc : May c) (hn : m.2.1.length ≤ 1000) : ref18_Why_l1 m a b c 0 = some (if ∃ p ∈ m.2.1, Hit a b c p then 4 else 0) := by
  have hbody : ∀ k, k < m.2.1.length → ref18_Why_b1 m a b c (k : Int) = some (if Hit a b c (m.2.1.getD k (0, 0)) then .inr 4 else .inl ((k + 1 : Nat) : Int)) := fun k hk => by
    unfold ref18_Why_b1
    rw [dlt hk, if_pos rfl, ix_getD (0, 0) hk, bind_some', bind_some', ad_one (by omega)]
    generalize m.2.1.getD k (0, 0) = p
    by_cases p1 : p = a
    · rw [if_neg (fun q : Hit a b c p => q.1 p1)]; simp [p1]
    · by_cases p2 : p = b
      · rw [if_neg (fun q : Hit a b c p => q.2.1 p2)]; simp [p2]
      · by_cases p3 : p = c
        · rw [if_neg (fun q : Hit a b c p => q.2.2.1 p3)]; simp [p3]
        · rw [decide_eq_false p1, decide_eq_false p2, decide_eq_false p3]
          simp only [Bool.not_false, Bool.and_self, gd_true, refMay_eq, bind_some', Bool.true_and]
          by_cases hm : May p
          · rw [decide_eq_true hm, gd_true, refIn_eq ha hb hc hm, bind_some']
            by_cases hI : InT a b c p
            · rw [decide_eq_true (InR_iff.2 hI), if_pos (by decide), if_pos (show Hit a b c p from ⟨p1, p2, p3, hm, hI⟩)]; rfl
            · rw [decide_eq_false (fun h => hI (InR_iff.1 h)), if_neg (by decide), if_neg (fun q : Hit a b c p => hI q.2.2.2.2)]
          · rw [decide_eq_false hm, gd_false, bind_some', if_neg (by decide), if_neg (fun q : Hit a b c p => hm q.2.2.2.1)]
  have := loopO_all (body := fun s => ref18_Why_b1 m a b c s) (fun k => (k : Int)) m.2.1.length (fun k => ¬ Hit a b c (m.2.1.getD k (0, 0))) (0 : Int) 4 (fun k hk ho => by
    show ref18_Why_b1 _ _ _ _ _ = _
    rw [hbody k hk, if_neg ho]) (fun k hk ho => by
    show ref18_Why_b1 _ _ _ _ _ = _
    rw [hbody k hk, if_pos (Classical.not_not.1 ho)]) (by
    show ref18_Why_b1 _ _ _ _ _ = _
    unfold ref18_Why_b1
    rw [dnlt (Nat.lt_irrefl _), if_neg (by decide)]; rfl)
  refine (show ref18_Why_l1 m a b c 0 = _ from this).trans ?_
  congr 1
  by_cases h : ∃ p ∈ m.2.1, Hit a b c p
  · rw [if_pos h, if_neg]
    obtain ⟨p, hp, hh⟩ := h
    intro hall
    obtain ⟨i, hi, he⟩ := mem_getD (d := ((0, 0) : Pt)) hp
    exact hall i hi (he ▸ hh)
  · rw [if_neg h, if_pos]
    intro k hk hh
    exact h ⟨_, getD_mem hk, hh⟩
theorem refWhy_eq (m : Mr) (a b c : Pt) (hl : m.1.length ≤ 1000) (hn : m.2.1.length ≤ 1000) (he : m.2.2.length ≤ 1000) : ref18_Why m a b c = some (whyR m a b c) := by
  unfold ref18_Why
  rw [All_eq _ (by simp), refHas_eq m a hn, refHas_eq m b hn, refHas_eq m c hn, chain_eq]
  have hB : (decide (a = c) || (decide (a = b) || (decide (b = c) || (!decide (∀ p ∈ [a, b, c], May p) || (!decide (a ∈ m.2.1) || (!decide (b ∈ m.2.1) || !decide (c ∈ m.2.1))))))) = decide (NoR m a b c) := by
    rw [Bool.eq_iff_iff]
    unfold NoR
    simp
  rw [hB]
  unfold whyR
  by_cases hN : NoR m a b c
  · rw [decide_eq_true hN, if_pos rfl, if_pos hN]
  · rw [decide_eq_false hN, if_neg (by decide), if_neg hN, Apart_eq _ _ _ (by omega), bind_some', Apart_eq _ _ _ (by omega)]
    have hm : May a ∧ May b ∧ May c := Classical.byContradiction fun q => hN (.inr (.inr (.inr (.inl q))))
    by_cases c1 : Cm m.1 a.1 c.1
    · rw [decide_eq_true c1]
      simp only [Bool.not_true, Bool.not_false, gd_true, bind_some', Bool.false_or]
      by_cases c2 : Cm m.1 a.2 c.2
      · rw [decide_eq_true c2, if_neg (by decide), if_neg (fun q => q ⟨c1, c2⟩), refJoined_eq m a c he, bind_some']
        by_cases hJ : btw a c ∈ kE m
        · rw [decide_eq_true hJ, if_pos rfl, if_pos hJ]
        · rw [decide_eq_false hJ, if_neg (by decide), if_neg hJ, refWhy_l1 m a b c hm.1 hm.2.1 hm.2.2 hn]
      · rw [decide_eq_false c2, if_pos (by decide), if_pos (fun q => c2 q.2)]
    · rw [decide_eq_false c1]
      simp only [Bool.not_false, Bool.not_true, gd_false, bind_some', Bool.true_or, if_true]
      rw [if_pos (fun q => c1 q.1)]
def keepP (b p : Pt) : Bool := !decide (p = b)
def keepE (a b c : Pt) (e : Pt × Pt) : Bool := !decide (btw e.1 e.2 = btw a b) && !decide (btw e.1 e.2 = btw b c)
def dropR (m : Mr) (a b c : Pt) : Mr := (m.1, m.2.1.filter (keepP b), m.2.2.filter (keepE a b c) ++ [(a, c)])
theorem refDrop_l3 (m : Mr) (a b c : Pt) (out : List Pt) (he : m.2.2.length ≤ 1000) : ref18_Drop_l3 m a b c out ([], 0) = some ((m.1, out, m.2.2.filter (keepE a b c) ++ [(a, c)]), true) := by
  have := loopO_nat (body := fun s => ref18_Drop_b3 m a b c out s.1 s.2) (fun k => ((m.2.2.take k).filter (keepE a b c), (k : Int))) m.2.2.length ((m.1, out, m.2.2.filter (keepE a b c) ++ [(a, c)]), true) (fun k hk => by
    show ref18_Drop_b3 _ _ _ _ _ _ _ = _
    have hlen : ((m.2.2.take k).filter (keepE a b c)).length ≤ k := by
      refine Nat.le_trans (List.length_filter_le _ _) ?_
      rw [List.length_take]; omega
    unfold ref18_Drop_b3
    rw [dlt hk, if_pos rfl, ix_getD ((0, 0), (0, 0)) hk, bind_some', joins_eq, bind_some', snoc_take ((0, 0), (0, 0)) hk, List.filter_append]
    generalize m.2.2.getD k ((0, 0), (0, 0)) = e
    unfold ref18_Drop_k4
    by_cases h1 : btw e.1 e.2 = btw a b
    · rw [decide_eq_true h1, show List.filter (keepE a b c) [e] = [] from List.filter_cons_of_neg (by simp [keepE, h1])]
      simp only [Bool.not_true, gd_false, bind_some', Bool.false_and, Bool.false_eq_true, if_false, List.append_nil, ad_one (show k < 1000000000 by omega)]
    · rw [decide_eq_false h1]
      simp only [Bool.not_false, gd_true, bind_some', joins_eq, Bool.true_and, ad_one (show k < 1000000000 by omega)]
      by_cases h2 : btw e.1 e.2 = btw b c
      · rw [decide_eq_true h2, if_neg (by decide), show List.filter (keepE a b c) [e] = [] from List.filter_cons_of_neg (by simp [keepE, h2]), List.append_nil]
      · rw [decide_eq_false h2, if_pos (by decide), show List.filter (keepE a b c) [e] = [e] from List.filter_cons_of_pos (by simp [keepE, h1, h2]), app_le (by simp only [List.length_cons, List.length_nil]; omega), bind_some']) (by
    show ref18_Drop_b3 _ _ _ _ _ _ _ = _
    unfold ref18_Drop_b3
    rw [dnlt (Nat.lt_irrefl _), if_neg (by decide), List.take_length, app_le (by have := List.length_filter_le (keepE a b c) m.2.2; simp only [List.length_cons, List.length_nil]; omega), bind_some']; rfl)
  exact this
theorem refDrop_l1 (m : Mr) (a b c : Pt) (hn : m.2.1.length ≤ 1000) (he : m.2.2.length ≤ 1000) : ref18_Drop_l1 m a b c ([], 0) = some (dropR m a b c, true) := by
  have := loopO_nat (body := fun s => ref18_Drop_b1 m a b c s.1 s.2) (fun k => ((m.2.1.take k).filter (keepP b), (k : Int))) m.2.1.length (dropR m a b c, true) (fun k hk => by
    show ref18_Drop_b1 _ _ _ _ _ _ = _
    have hlen : ((m.2.1.take k).filter (keepP b)).length ≤ k := by
      refine Nat.le_trans (List.length_filter_le _ _) ?_
      rw [List.length_take]; omega
    unfold ref18_Drop_b1
    rw [dlt hk, if_pos rfl, ix_getD (0, 0) hk, bind_some', snoc_take (0, 0) hk, List.filter_append]
    generalize m.2.1.getD k (0, 0) = e
    unfold ref18_Drop_k2
    by_cases h1 : e = b
    · rw [decide_eq_true h1, if_neg (by decide), show List.filter (keepP b) [e] = [] from List.filter_cons_of_neg (by simp [keepP, h1]), List.append_nil, ad_one (by omega)]
    · rw [decide_eq_false h1, if_pos (by decide), show List.filter (keepP b) [e] = [e] from List.filter_cons_of_pos (by simp [keepP, h1]), bind_some', app_le (by simp only [List.length_cons, List.length_nil]; omega), bind_some', ad_one (by omega)]) (by
    show ref18_Drop_b1 _ _ _ _ _ _ = _
    unfold ref18_Drop_b1
    rw [dnlt (Nat.lt_irrefl _), if_neg (by decide), List.take_length, refDrop_l3 m a b c _ he]; rfl)
  exact this
theorem refDrop_eq (m : Mr) (a b c : Pt) (hl : m.1.length ≤ 1000) (hn : m.2.1.length ≤ 1000) (he : m.2.2.length ≤ 1000) : ref18_Drop m a b c = some (if whyR m a b c = 0 then (dropR m a b c, true) else (m, false)) := by
  unfold ref18_Drop
  rw [refWhy_eq m a b c hl hn he, bind_some']
  by_cases h0 : whyR m a b c = 0
  · rw [decide_eq_true h0, if_neg (by decide), if_pos h0, refDrop_l1 m a b c hn he]
  · rw [decide_eq_false h0, if_pos (by decide), if_neg h0]
end Go.Proofs.Ytoccfdohlefifaa.Pl
