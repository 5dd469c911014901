import Derived.Test.YtoccfdohlefifaaP18d
namespace Go.Proofs.Ytoccfdohlefifaa.Pl
set_option maxRecDepth 4000
theorem foldl_snoc' {α S : Type} (f : S → α → S) (s : S) (l : List α) {k : Nat} (d : α) (h : k < l.length) : (l.take (k + 1)).foldl f s = f ((l.take k).foldl f s) (l.getD k d) := by
  rw [snoc_take d h, List.foldl_append]; rfl
def InT (a b c p : Pt) : Prop :=
  if crossZ a b c = 0 then On a b p ∨ On b c p ∨ On c a p
  else p = a ∨ (sg (crossZ a b p) ≠ -sg (crossZ a b c) ∧ sg (crossZ b c p) ≠ -sg (crossZ a b c) ∧ sg (crossZ c a p) ≠ -sg (crossZ a b c))
instance (a b c p : Pt) : Decidable (InT a b c p) := by unfold InT; infer_instance
theorem ng_sg (n : Int) : ng (sg n) = -sg n := ng_in (by rcases sg_cases n with h | h | h <;> omega)
theorem sg_zero_iff (n : Int) : sg n = 0 ↔ n = 0 := by rcases sg_cases n with h | h | h <;> omega
theorem InT_eq {a b c p : Pt} (ha : May a) (hb : May b) (hc : May c) (hp : May p) : exact_InTriangle a b c p = some (decide (InT a b c p)) := by
  unfold exact_InTriangle
  rw [Right_true (by simp) (by simp [ha, hb, hc, hp])]
  simp only [bind_some', Bool.not_true, Bool.false_eq_true, if_false]
  rw [Turn_eq ha hb hc]
  simp only [bind_some', sg_zero_iff]
  unfold InT
  by_cases h0 : crossZ a b c = 0
  · simp only [h0, decide_true, if_true, On_eq ha hb hp, On_eq hb hc hp, On_eq hc ha hp, bind_some']
    cases h1 : decide (On a b p) <;> cases h2 : decide (On b c p) <;> cases h3 : decide (On c a p) <;> simp_all
  · simp only [h0, decide_false, Bool.false_eq_true, if_false]
    unfold exact_InTriangle_1
    simp only [Turn_eq ha hb hp, Turn_eq hb hc hp, Turn_eq hc ha hp, bind_some', ng_sg]
    by_cases h1 : p = a
    · simp [h1]
    · cases h2 : decide (sg (crossZ a b p) = -sg (crossZ a b c)) <;> cases h3 : decide (sg (crossZ b c p) = -sg (crossZ a b c)) <;> cases h4 : decide (sg (crossZ c a p) = -sg (crossZ a b c)) <;> simp_all
def Bad (g : Gd) (a b c p : Pt) : Prop := Mt (boxP [a, b, c]) (p, p) ∧ p ≠ a ∧ p ≠ b ∧ p ≠ c ∧ hasM g.2.2.2.1 p = true ∧ InT a b c p
instance (g : Gd) (a b c p : Pt) : Decidable (Bad g a b c p) := by unfold Bad; infer_instance
def NoEnds (g : Gd) (a b c : Pt) : Prop := a = c ∨ b = a ∨ b = c ∨ ¬ (May a ∧ May b ∧ May c) ∨ hasM g.2.2.2.1 a = false ∨ hasM g.2.2.2.1 b = false ∨ hasM g.2.2.2.1 c = false
instance (g : Gd) (a b c : Pt) : Decidable (NoEnds g a b c) := by unfold NoEnds; infer_instance
instance (l : List Int) (a b : Int) : Decidable (Cm l a b) := by unfold Cm; infer_instance
def whyG (g : Gd) (a b c : Pt) : Int :=
  if NoEnds g a b c then 1 else if ¬ (Cm g.2.1 a.1 c.1 ∧ Cm g.2.1 a.2 c.2) then 2 else if hasM g.2.2.2.2 (btw a c) = true then 3 else if ∃ p ∈ g.2.2.1, Bad g a b c p then 4 else 0
theorem Why_eq {g : Gd} {L : List Int} {n : Nat} (h : GI g L n) (hn : n ≤ 200) (hr : Ris L) (hL : L.length ≤ 1000) (a b c : Pt) : guard_Guard_Why g a b c = some (whyG g a b c) := by
  unfold guard_Guard_Why
  have hR : exact_Right [a, b, c] = some (decide (May a ∧ May b ∧ May c)) := by
    rw [Right_eq _ (by simp)]
    congr 1
    rw [decide_eq_decide]; simp
  rw [hR]
  have hE : (some ((false || (decide (a = c))) || (decide (b = a)))).bind (fun x125 => (gd (!(x125 || (decide (b = c)))) (some (decide (May a ∧ May b ∧ May c))) false).bind fun r128 => (some ((x125 || (decide (b = c))) || (!r128))).bind fun x129 => (some (x129 || (!((lkM g.2.2.2.1 a).getD false)))).bind fun x130 => (some (x130 || (!((lkM g.2.2.2.1 b).getD false)))).bind fun x131 => (some (x131 || (!((lkM g.2.2.2.1 c).getD false))))) = some (decide (NoEnds g a b c)) := by
    unfold NoEnds hasM
    by_cases q1 : a = c
    · simp [q1]
    · by_cases q2 : b = a
      · simp [q2]
      · by_cases q3 : b = c
        · simp [q3]
        · simp only [decide_eq_false q1, decide_eq_false q2, decide_eq_false q3, q1, q2, q3, Bool.or_self, bind_some', Bool.not_false, gd_true, Bool.false_or, false_or]
          congr 1
          cases (lkM g.2.2.2.1 a).getD false <;> cases (lkM g.2.2.2.1 b).getD false <;> cases (lkM g.2.2.2.1 c).getD false <;> by_cases q4 : (May a ∧ May b ∧ May c) <;> simp [q4]
  have hA : ∀ (f : Bool → Option Int), ((some ((false || (decide (a = c))) || (decide (b = a)))).bind fun x125 => (gd (!(x125 || (decide (b = c)))) (some (decide (May a ∧ May b ∧ May c))) false).bind fun r128 => (some ((x125 || (decide (b = c))) || (!r128))).bind fun x129 => (some (x129 || (!((lkM g.2.2.2.1 a).getD false)))).bind fun x130 => (some (x130 || (!((lkM g.2.2.2.1 b).getD false)))).bind fun x131 => (some (x131 || (!((lkM g.2.2.2.1 c).getD false)))).bind f) = f (decide (NoEnds g a b c)) := fun f => by
    rw [← show (some (decide (NoEnds g a b c))).bind f = f (decide (NoEnds g a b c)) from rfl, ← hE]
    simp only [Option.bind_assoc]
  rw [hA]
  unfold whyG
  by_cases hN : NoEnds g a b c
  · rw [decide_eq_true hN, if_pos rfl, if_pos hN]
  · rw [decide_eq_false hN, if_neg (by decide), if_neg hN, h.lin, Common_eq L _ _ (by omega) hr, bind_some', Common_eq L _ _ (by omega) hr]
    have hm : May a ∧ May b ∧ May c := by
      unfold NoEnds at hN
      exact Classical.byContradiction fun q => hN (.inr (.inr (.inr (.inl q))))
    by_cases c1 : Cm L a.1 c.1
    · rw [decide_eq_true c1]
      simp only [Bool.not_true, Bool.not_false, gd_true, bind_some', Bool.false_or]
      by_cases c2 : Cm L a.2 c.2
      · rw [decide_eq_true c2, if_neg (by decide), if_neg (fun q => q ⟨c1, c2⟩), between_eq, bind_some']
        by_cases hJ : hasM g.2.2.2.2 (btw a c) = true
        · rw [if_pos (show (lkM g.2.2.2.2 (btw a c)).getD false = true from hJ), if_pos hJ]
        · rw [if_neg (show ¬ (lkM g.2.2.2.2 (btw a c)).getD false = true from hJ), if_neg hJ, Of_eq _ (by simp), if_pos ⟨by simp, by simp [hm]⟩, bind_some']
          have hidx := h.idx
          have hlen := h.len
          have hfl := fnd_len (pb g.2.2.1) (boxP [a, b, c])
          rw [pb_len] at hfl
          rw [Find_eq hidx (by rw [pb_len]; omega), bind_some']
          have hat : ∀ k, k < (fnd (pb g.2.2.1) (boxP [a, b, c])).length → ∃ p ∈ g.2.2.1, ix g.2.2.1 ((fnd (pb g.2.2.1) (boxP [a, b, c])).getD k 0) = some p ∧ Mt (boxP [a, b, c]) (p, p) := fun k hk => by
            obtain ⟨i, hi, hl, hM⟩ := mem_fnd.1 (getD_mem (d := 0) hk)
            rw [pb_len] at hl
            rw [pb_get _ hl] at hM
            exact ⟨g.2.2.1.getD i (0, 0), getD_mem hl, by rw [hi, ix_getD (0, 0) hl], hM⟩
          have hbody : ∀ k, k < (fnd (pb g.2.2.1) (boxP [a, b, c])).length → ∀ p, ix g.2.2.1 ((fnd (pb g.2.2.1) (boxP [a, b, c])).getD k 0) = some p → Mt (boxP [a, b, c]) (p, p) → guard_Guard_Why_b1 g a b c (fnd (pb g.2.2.1) (boxP [a, b, c])) (k : Int) = some (if Bad g a b c p then .inr 4 else .inl ((k + 1 : Nat) : Int)) := fun k hk p hp hM => by
            have hmp : May p := hM.2.1.1
            unfold guard_Guard_Why_b1
            rw [dlt hk, if_pos rfl, ix_getD 0 hk, bind_some', hp, bind_some', bind_some', bind_some', ad_one (by omega)]
            by_cases p1 : p = a
            · rw [if_neg (fun q : Bad g a b c p => q.2.1 p1)]; simp [p1]
            · by_cases p2 : p = b
              · rw [if_neg (fun q : Bad g a b c p => q.2.2.1 p2)]; simp [p2]
              · by_cases p3 : p = c
                · rw [if_neg (fun q : Bad g a b c p => q.2.2.2.1 p3)]; simp [p3]
                · rw [decide_eq_false p1, decide_eq_false p2, decide_eq_false p3]
                  by_cases hh : hasM g.2.2.2.1 p = true
                  · have hh' : (lkM g.2.2.2.1 p).getD false = true := hh
                    rw [hh']
                    simp only [Bool.not_false, Bool.and_self, gd_true]
                    rw [InT_eq hm.1 hm.2.1 hm.2.2 hmp, bind_some']
                    by_cases hI : InT a b c p
                    · rw [decide_eq_true hI, if_pos (by decide), if_pos (show Bad g a b c p from ⟨hM, p1, p2, p3, hh, hI⟩)]; rfl
                    · rw [decide_eq_false hI, if_neg (by decide), if_neg (fun q : Bad g a b c p => hI q.2.2.2.2.2)]
                  · have hh' : (lkM g.2.2.2.1 p).getD false = false := by rw [Bool.not_eq_true] at hh; exact hh
                    rw [hh', if_neg (fun q : Bad g a b c p => hh q.2.2.2.2.1)]; rfl
          have := loopO_all (body := fun s => guard_Guard_Why_b1 g a b c (fnd (pb g.2.2.1) (boxP [a, b, c])) s) (fun k => (k : Int)) (fnd (pb g.2.2.1) (boxP [a, b, c])).length (fun k => ¬ Bad g a b c ((ix g.2.2.1 ((fnd (pb g.2.2.1) (boxP [a, b, c])).getD k 0)).getD (0, 0))) (0 : Int) 4 (fun k hk ho => by
            obtain ⟨p, _, h2, h3⟩ := hat k hk
            rw [h2, Option.getD_some] at ho
            show guard_Guard_Why_b1 _ _ _ _ _ _ = _
            rw [hbody k hk p h2 h3, if_neg ho]) (fun k hk ho => by
            obtain ⟨p, _, h2, h3⟩ := hat k hk
            rw [h2, Option.getD_some] at ho
            show guard_Guard_Why_b1 _ _ _ _ _ _ = _
            rw [hbody k hk p h2 h3, if_pos (Classical.not_not.1 ho)]) (by
            show guard_Guard_Why_b1 _ _ _ _ _ _ = _
            unfold guard_Guard_Why_b1
            rw [dnlt (Nat.lt_irrefl _), if_neg (by decide)]; rfl)
          refine (show guard_Guard_Why_l1 g a b c _ 0 = _ from this).trans ?_
          congr 1
          by_cases hB : ∃ p ∈ g.2.2.1, Bad g a b c p
          · rw [if_pos hB, if_neg]
            obtain ⟨p, hp, hb⟩ := hB
            intro hall
            obtain ⟨i, hi, hpi⟩ := mem_getD (d := ((0, 0) : Pt)) hp
            have hmem : (i : Int) ∈ fnd (pb g.2.2.1) (boxP [a, b, c]) := mem_fnd.2 ⟨i, rfl, by rw [pb_len]; exact hi, by rw [pb_get _ hi, hpi]; exact hb.1⟩
            obtain ⟨k, hk, hki⟩ := mem_getD (d := (0 : Int)) hmem
            have := hall k hk
            rw [hki, ix_getD (0, 0) hi, hpi] at this
            exact this hb
          · rw [if_neg hB, if_pos]
            intro k hk hbad
            obtain ⟨p, h1, h2, _⟩ := hat k hk
            rw [h2] at hbad
            exact hB ⟨p, h1, hbad⟩
      · rw [decide_eq_false c2, if_pos (by decide), if_pos (fun q => c2 q.2)]
    · rw [decide_eq_false c1]
      simp only [Bool.not_false, Bool.not_true, gd_false, bind_some', Bool.true_or, if_true]
      rw [if_pos (fun q => c1 q.1)]
def dropG (g : Gd) (a b c : Pt) : Gd := (g.1, g.2.1, g.2.2.1, deM g.2.2.2.1 b, upM (deM (deM g.2.2.2.2 (btw a b)) (btw b c)) (btw a c) true)
theorem Drop_eq {g : Gd} {L : List Int} {n : Nat} (h : GI g L n) (hn : n ≤ 200) (hr : Ris L) (hL : L.length ≤ 1000) (a b c : Pt) : guard_Guard_Drop g a b c = some (if whyG g a b c = 0 then (true, dropG g a b c) else (false, g)) := by
  unfold guard_Guard_Drop
  rw [Why_eq h hn hr hL, bind_some']
  by_cases h0 : whyG g a b c = 0
  · rw [decide_eq_true h0, if_neg (by decide), if_pos h0, between_eq, between_eq, between_eq]; rfl
  · rw [decide_eq_false h0, if_pos (by decide), if_neg h0]
theorem GI.drop {g : Gd} {L : List Int} {n : Nat} (h : GI g L n) (a b c : Pt) : GI (dropG g a b c) L n :=
  ⟨h.idx, h.len, h.lin, de_nodup h.tnd, up_nodup (de_nodup (de_nodup h.ende))⟩
theorem ris_nil : Ris [] := List.Pairwise.nil
theorem known18 : law18_known = some true := by
  unfold law18_known
  have g1 : GI (newG [] [([(0, 0), (2, 1), (4, 0)], 0, 0)]) [] (0 + 3) := GI.arcs _ (GI.nil [])
  have g2 : GI (newG [] [([(0, 0), (2, 1), (4, 0)], 0, 0), ([(2, 0), (2, (-5))], 0, 0)]) [] (0 + 5) := GI.arcs _ (GI.nil [])
  rw [New18_eq _ _ (by simp) (by simp) (by decide), bind_some', New18_eq _ _ (by simp) (by simp) (by decide), bind_some']
  have e1 : whyG (newG [] [([(0, 0), (2, 1), (4, 0)], 0, 0)]) (0, 0) (2, 1) (4, 0) = 0 := by decide +kernel
  have e2 : whyG (newG [] [([(0, 0), (2, 1), (4, 0)], 0, 0), ([(2, 0), (2, (-5))], 0, 0)]) (0, 0) (2, 1) (4, 0) = 4 := by decide +kernel
  have e3 : (newG [] [([(0, 0), (2, 1), (4, 0)], 0, 0)]).2.2.2.2.length = 2 := by decide +kernel
  have i0 : ix [((0 : Int), (0 : Int)), (2, 1), (4, 0)] 0 = some (0, 0) := rfl
  have i1 : ix [((0 : Int), (0 : Int)), (2, 1), (4, 0)] 1 = some (2, 1) := rfl
  have i2 : ix [((0 : Int), (0 : Int)), (2, 1), (4, 0)] 2 = some (4, 0) := rfl
  unfold guard_Guard_Edges
  rw [Bool.or_self, if_neg (by decide), i0, i1, i2, bind_some', bind_some', bind_some', Why_eq g1 (by omega) ris_nil (by simp), bind_some', e1]
  simp only [decide_true, gd_true, bind_some']
  rw [Why_eq g2 (by omega) ris_nil (by simp), bind_some', e2, e3]
  rfl
theorem Lines_eq (l : List Int) : ∃ L, law18_Lines l = some L ∧ Ris L ∧ L.length ≤ 10 := by
  unfold law18_Lines law18_Lines_l1
  have hinc : ∀ (m : List Int), Inc ltI (m.foldl (fun out z => insF ltI z out) []) ∧ (m.foldl (fun out z => insF ltI z out) []).length = m.length := fun m =>
    ⟨foldl_inc wkI m [] List.Pairwise.nil, by
      have : ∀ (m o : List Int), (m.foldl (fun out z => insF ltI z out) o).length = o.length + m.length := by
        intro m
        induction m with
        | nil => intro o; simp
        | cons z m ih => intro o; rw [List.foldl_cons, ih, insF_len, List.length_cons]; omega
      have := this m []
      simpa using this⟩
  have := loopO_nat (body := fun s => law18_Lines_b1 l s.1 s.2) (fun k => ((l.take k).foldl (fun out z => insF ltI z out) [], (k : Int))) (min l.length 10) ((l.take (min l.length 10)).foldl (fun out z => insF ltI z out) []) (fun k hk => by
    dsimp only
    obtain ⟨h1, h2⟩ := hinc (l.take k)
    rw [List.length_take] at h2
    have hk1 : k < l.length := by omega
    unfold law18_Lines_b1
    rw [dlt hk1, decide_eq_true (show (k : Int) < 10 by omega), Bool.and_self, bind_some', if_pos rfl, ix_getD 0 hk1, bind_some', Put_eq _ _ (by omega) h1, bind_some', ad_one (by omega), foldl_snoc' (fun out z => insF ltI z out) [] l 0 hk1]) (by
    dsimp only
    unfold law18_Lines_b1
    rw [show (decide (((min l.length 10 : Nat) : Int) < (l.length : Int)) && decide (((min l.length 10 : Nat) : Int) < 10)) = false by
      rw [Bool.and_eq_false_iff, decide_eq_false_iff_not, decide_eq_false_iff_not]; omega, bind_some', if_neg (by decide)]; rfl)
  refine ⟨_, this, inc_ris.1 (hinc _).1, ?_⟩
  rw [(hinc _).2, List.length_take]; omega
def cutA (l : List Ar) : List Ar := (l.take 10).map fun a => (a.1.take 20, a.2.1, a.2.2)
theorem Cut14_eq (l : List Ar) : law14_Cut l = some (cutA l) := by
  unfold law14_Cut law14_Cut_l1
  have := loopO_nat (body := fun s => law14_Cut_b1 l s.1 s.2) (fun k => ((l.take k).map fun a : Ar => (a.1.take 20, a.2.1, a.2.2), (k : Int))) (min l.length 10) (cutA l) (fun k hk => by
    dsimp only
    have hk1 : k < l.length := by omega
    have hc : ∀ m : List Pt, cut m 0 (mn (m.length : Int) 20) = some (m.take 20) := fun m => by
      have e : mn (m.length : Int) 20 = ((min m.length 20 : Nat) : Int) := by rw [mn_eq]; omega
      rw [e, cut_to (by omega)]
      congr 1
      by_cases h : m.length ≤ 20
      · rw [Nat.min_eq_left h, List.take_of_length_le (Nat.le_refl _), List.take_of_length_le h]
      · rw [Nat.min_eq_right (by omega)]
    unfold law14_Cut_b1
    rw [dlt hk1, decide_eq_true (show (k : Int) < 10 by omega), Bool.and_self, bind_some', if_pos rfl, ix_getD ([], 0, 0) hk1, bind_some', hc, bind_some', app_le (by simp only [List.length_map, List.length_take, List.length_cons, List.length_nil]; omega), bind_some', ad_one (by omega), snoc_take ([], 0, 0) hk1, List.map_append]; rfl) (by
    dsimp only
    unfold law14_Cut_b1
    rw [show (decide (((min l.length 10 : Nat) : Int) < (l.length : Int)) && decide (((min l.length 10 : Nat) : Int) < 10)) = false by
      rw [Bool.and_eq_false_iff, decide_eq_false_iff_not, decide_eq_false_iff_not]; omega, bind_some', if_neg (by decide)]
    unfold cutA
    by_cases h : l.length ≤ 10
    · rw [Nat.min_eq_left h, List.take_of_length_le (Nat.le_refl _), List.take_of_length_le h]; rfl
    · rw [Nat.min_eq_right (by omega)]; rfl)
  exact this
theorem cutA_total (l : List Ar) : (cutA l).length ≤ 10 ∧ total (cutA l) ≤ 200 := by
  have h1 : (cutA l).length ≤ 10 := by unfold cutA; rw [List.length_map, List.length_take]; omega
  refine ⟨h1, ?_⟩
  have : ∀ m : List Ar, total (m.map fun a => (a.1.take 20, a.2.1, a.2.2)) ≤ 20 * m.length := by
    intro m
    induction m with
    | nil => simp [total]
    | cons a m ih =>
      unfold total at ih ⊢
      simp only [List.map_cons, List.sum_cons, List.length_cons, List.length_take] at ih ⊢
      omega
  have h2 := this (l.take 10)
  rw [List.length_take] at h2
  unfold cutA
  omega
end Go.Proofs.Ytoccfdohlefifaa.Pl
