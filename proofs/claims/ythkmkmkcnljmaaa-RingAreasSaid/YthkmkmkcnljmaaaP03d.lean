/-
  Two segments: how they lie, said by points that lie on the other. No program in sight.
-/
import Derived.Test.YthkmkmkcnljmaaaP03c
namespace Go.Proofs.Ythkmkmkcnljmaaa.Pl

theorem ref01_Cross_eq {a b c : Pt} (ha : May a) (hb : May b) (hc : May c) : ref01_Cross a b c = some (crossZ a b c) := by
  unfold May at ha hb hc
  unfold ref01_Cross
  have q1 := ml_25 (a := a.1) (b := b.2) (by omega) (by omega)
  have q2 := ml_25 (a := b.1) (b := a.2) (by omega) (by omega)
  have q3 := ml_25 (a := b.1) (b := c.2) (by omega) (by omega)
  have q4 := ml_25 (a := c.1) (b := b.2) (by omega) (by omega)
  have q5 := ml_25 (a := c.1) (b := a.2) (by omega) (by omega)
  have q6 := ml_25 (a := a.1) (b := c.2) (by omega) (by omega)
  simp only [bind_some']
  rw [q1.1, q2.1, q3.1, q4.1, q5.1, q6.1, sb_in (x := a.1 * b.2) (by omega), ad_in (y := b.1 * c.2) (by omega), sb_in (y := c.1 * b.2) (by omega), ad_in (y := c.1 * a.2) (by omega), sb_in (y := a.1 * c.2) (by omega)]
  congr 1
  unfold crossZ
  grind
theorem ref01_Sign_eq (n : Int) : ref01_Sign n = some (sg n) := by
  unfold ref01_Sign sg
  simp only [decide_eq_true_eq]
  split <;> (try split) <;> rfl
theorem sq_nonneg (u : Int) : 0 ≤ u * u := by
  rcases Int.le_total 0 u with h | h
  · exact Int.mul_nonneg h h
  · have := Int.mul_nonneg (show 0 ≤ -u by omega) (show 0 ≤ -u by omega)
    rwa [Int.neg_mul_neg] at this
theorem sq_pos {u : Int} (h : u ≠ 0) : 0 < u * u := by
  rcases Int.lt_or_gt_of_ne h with h | h
  · have := Int.mul_pos (show 0 < -u by omega) (show 0 < -u by omega)
    rwa [Int.neg_mul_neg] at this
  · exact Int.mul_pos h h
theorem long_pos {u1 u2 : Int} (h : u1 ≠ 0 ∨ u2 ≠ 0) : 0 < u1 * u1 + u2 * u2 := by
  have h1 := sq_nonneg u1
  have h2 := sq_nonneg u2
  rcases h with h | h
  · have := sq_pos h; omega
  · have := sq_pos h; omega
def btw (u v : Int) : Prop := (0 ≤ v ∧ v ≤ u) ∨ (u ≤ v ∧ v ≤ 0)
theorem between_of_mul {d L u : Int} (hu : 0 < u) (h0 : 0 ≤ d * u) (h1 : d * u ≤ L * u) : 0 ≤ d ∧ d ≤ L :=
  ⟨Int.nonneg_of_mul_nonneg_left h0 hu, Int.le_of_mul_le_mul_right h1 hu⟩
theorem between_mul {d L u : Int} (h0 : 0 ≤ d) (hL : d ≤ L) : (0 ≤ u → 0 ≤ d * u ∧ d * u ≤ L * u) ∧ (u ≤ 0 → L * u ≤ d * u ∧ d * u ≤ 0) := by
  constructor
  · intro hu
    exact ⟨Int.mul_nonneg h0 hu, Int.mul_le_mul_of_nonneg_right hL hu⟩
  · intro hu
    have h1 := Int.mul_nonneg h0 (show 0 ≤ -u by omega)
    have h2 := Int.mul_le_mul_of_nonneg_right hL (show 0 ≤ -u by omega)
    rw [Int.mul_neg] at h1 h2
    rw [Int.mul_neg] at h2
    omega
theorem btw_iff {u1 u2 v1 v2 : Int} (hu : u1 ≠ 0 ∨ u2 ≠ 0) (h : u1 * v2 - u2 * v1 = 0) :
    (btw u1 v1 ∧ btw u2 v2) ↔ (0 ≤ v1 * u1 + v2 * u2 ∧ v1 * u1 + v2 * u2 ≤ u1 * u1 + u2 * u2) := by
  have hc : (u1 * u1 + u2 * u2) * v1 = (v1 * u1 + v2 * u2) * u1 ∧ (u1 * u1 + u2 * u2) * v2 = (v1 * u1 + v2 * u2) * u2 := by constructor <;> grind
  have hL := long_pos hu
  generalize hd : v1 * u1 + v2 * u2 = d at *
  generalize hl : u1 * u1 + u2 * u2 = L at *
  have pos_of {x y : Int} (hx : L * x = d * y) (hb : btw y x) (hy : y ≠ 0) : 0 ≤ d ∧ d ≤ L := by
    rcases Int.lt_or_gt_of_ne hy with hn | hp
    · have hb' : y ≤ x ∧ x ≤ 0 := by unfold btw at hb; omega
      have h1 := Int.mul_nonneg (show 0 ≤ L by omega) (show 0 ≤ -x by omega)
      have h2 := Int.mul_nonneg (show 0 ≤ L by omega) (show 0 ≤ x - y by omega)
      rw [Int.mul_neg, hx] at h1
      rw [Int.mul_sub, hx] at h2
      refine between_of_mul (u := -y) (by omega) ?_ ?_
      · rw [Int.mul_neg]; exact h1
      · rw [Int.mul_neg, Int.mul_neg]; omega
    · have hb' : 0 ≤ x ∧ x ≤ y := by unfold btw at hb; omega
      have h1 := Int.mul_nonneg (show 0 ≤ L by omega) (show 0 ≤ x by omega)
      have h2 := Int.mul_nonneg (show 0 ≤ L by omega) (show 0 ≤ y - x by omega)
      rw [hx] at h1
      rw [Int.mul_sub, hx] at h2
      exact between_of_mul hp h1 (by omega)
  have back {x y : Int} (hx : L * x = d * y) (h0 : 0 ≤ d) (h1 : d ≤ L) : btw y x := by
    have hm := between_mul (u := y) h0 h1
    rw [← hx] at hm
    rcases Int.le_total 0 y with hy | hy
    · left
      obtain ⟨a, b⟩ := hm.1 hy
      exact ⟨Int.nonneg_of_mul_nonneg_right a hL, Int.le_of_mul_le_mul_left b hL⟩
    · right
      obtain ⟨a, b⟩ := hm.2 hy
      have b' : L * x ≤ L * 0 := by rw [Int.mul_zero]; exact b
      exact ⟨Int.le_of_mul_le_mul_left a hL, Int.le_of_mul_le_mul_left b' hL⟩
  constructor
  · rintro ⟨b1, b2⟩
    rcases hu with h | h
    · exact pos_of hc.1 b1 h
    · exact pos_of hc.2 b2 h
  · rintro ⟨h0, h1⟩
    exact ⟨back hc.1 h0 h1, back hc.2 h0 h1⟩
theorem On_btw (a b p : Pt) : On a b p ↔ crossZ a b p = 0 ∧ btw (b.1 - a.1) (p.1 - a.1) ∧ btw (b.2 - a.2) (p.2 - a.2) := by
  unfold On btw
  omega
theorem pt_ext {a b : Pt} (h1 : a.1 = b.1) (h2 : a.2 = b.2) : a = b := Prod.ext h1 h2
theorem crossZ_left (a b : Pt) : crossZ a b a = 0 := by unfold crossZ; grind
theorem crossZ_right (a b : Pt) : crossZ a b b = 0 := by unfold crossZ; grind
theorem crossZ_swap (a b c : Pt) : crossZ b a c = - crossZ a b c := by unfold crossZ; grind
theorem crossZ_turn (a b c : Pt) : crossZ b c a = crossZ a b c := by unfold crossZ; grind
theorem On_left (a b : Pt) : On a b a := by rw [On_btw]; refine ⟨crossZ_left a b, ?_, ?_⟩ <;> unfold btw <;> omega
theorem On_right (a b : Pt) : On a b b := by rw [On_btw]; refine ⟨crossZ_right a b, ?_, ?_⟩ <;> unfold btw <;> omega
theorem On_swap (a b p : Pt) : On b a p ↔ On a b p := by
  unfold On
  rw [crossZ_swap]
  omega
theorem ref01_On_eq {a b p : Pt} (ha : May a) (hb : May b) (hp : May p) : ref01_On a b p = some (decide (On a b p)) := by
  unfold ref01_On
  by_cases hab : a = b
  · subst hab
    simp only [decide_true, if_true]
    congr 1
    rw [Bool.eq_iff_iff]
    simp only [decide_eq_true_eq, On_btw]
    constructor
    · rintro rfl; exact (On_btw _ _ _).1 (On_left _ _)
    · rintro ⟨_, h1, h2⟩
      unfold btw at h1 h2
      exact pt_ext (by omega) (by omega)
  · rw [decide_eq_false hab]
    simp only [Bool.false_eq_true, if_false, ref01_Cross_eq ha hb hp, bind_some']
    have hne : b.1 - a.1 ≠ 0 ∨ b.2 - a.2 ≠ 0 := by
      rcases Int.decEq (b.1 - a.1) 0 with h | h
      · exact .inl h
      · right; intro h2; exact hab (pt_ext (by omega) (by omega))
    unfold May at ha hb hp
    have q1 := ml_25 (a := p.1 - a.1) (b := b.1 - a.1) (by omega) (by omega)
    have q2 := ml_25 (a := p.2 - a.2) (b := b.2 - a.2) (by omega) (by omega)
    have q3 := ml_25 (a := b.1 - a.1) (b := b.1 - a.1) (by omega) (by omega)
    have q4 := ml_25 (a := b.2 - a.2) (b := b.2 - a.2) (by omega) (by omega)
    rw [sb_in (x := p.1) (by omega), sb_in (x := b.1) (by omega), sb_in (x := p.2) (by omega), sb_in (x := b.2) (by omega), q1.1, q2.1, q3.1, q4.1, ad_in (by omega), ad_in (by omega)]
    congr 1
    rw [Bool.eq_iff_iff]
    simp only [Bool.and_eq_true, decide_eq_true_eq, On_btw]
    constructor
    · rintro ⟨⟨h0, h1⟩, h2⟩; exact ⟨h0, (btw_iff hne h0).2 ⟨h1, h2⟩⟩
    · rintro ⟨h0, h1⟩; have := (btw_iff hne h0).1 h1; exact ⟨⟨h0, this.1⟩, this.2⟩
/-! ### how two segments lie -/
def ind (P : Prop) [Decidable P] : Int := if P then 1 else 0
theorem ind_cases (P : Prop) [Decidable P] : (P ∧ ind P = 1) ∨ (¬ P ∧ ind P = 0) := by
  unfold ind; by_cases h : P <;> simp [h]
def nOn (a b c d : Pt) : Int := ind (On c d a) + ind (On c d b) + (ind (On a b c) + ind (On a b d))
def nBo (a b c d : Pt) : Int := ind (a = c ∨ a = d) + ind (b = c ∨ b = d)
def cls (a b c d : Pt) : Int :=
  if (a = c ∧ b = d) ∨ (a = d ∧ b = c) then 5 else if 1 < nOn a b c d - nBo a b c d then 4 else if nOn a b c d - nBo a b c d = 1 then (if nBo a b c d = 1 then 1 else 2)
  else if ¬ sg (crossZ a b c) = sg (crossZ a b d) ∧ ¬ sg (crossZ c d a) = sg (crossZ c d b) then 3 else 0
theorem ind_iff {P Q : Prop} [Decidable P] [Decidable Q] (h : P ↔ Q) : ind P = ind Q := by
  unfold ind; by_cases hp : P
  · rw [if_pos hp, if_pos (h.1 hp)]
  · rw [if_neg hp, if_neg (fun hq => hp (h.2 hq))]
theorem sg_neg' (n : Int) : sg (-n) = - sg n := by rcases sg_cases n with h | h | h <;> rcases sg_cases (-n) with h' | h' | h' <;> omega
theorem cls_swap (a b c d : Pt) : cls b a c d = cls a b c d := by
  unfold cls
  have e1 : nOn b a c d = nOn a b c d := by unfold nOn; rw [ind_iff (On_swap a b c), ind_iff (On_swap a b d)]; omega
  have e2 : nBo b a c d = nBo a b c d := by unfold nBo; omega
  rw [e1, e2, crossZ_swap a b c, crossZ_swap a b d, sg_neg', sg_neg']
  have e3 : ((b = c ∧ a = d) ∨ (b = d ∧ a = c)) ↔ ((a = c ∧ b = d) ∨ (a = d ∧ b = c)) := by grind
  have e4 : (¬ -sg (crossZ a b c) = -sg (crossZ a b d) ∧ ¬ sg (crossZ c d b) = sg (crossZ c d a)) ↔ (¬ sg (crossZ a b c) = sg (crossZ a b d) ∧ ¬ sg (crossZ c d a) = sg (crossZ c d b)) := by omega
  simp only [e3, e4]
theorem cls_sym {a b c d : Pt} (hab : a ≠ b) (hcd : c ≠ d) : cls c d a b = cls a b c d := by
  unfold cls
  have e1 : nOn c d a b = nOn a b c d := by unfold nOn; omega
  have e2 : nBo c d a b = nBo a b c d := by
    unfold nBo
    have h1 := ind_cases (a = c ∨ a = d)
    have h2 := ind_cases (b = c ∨ b = d)
    have h3 := ind_cases (c = a ∨ c = b)
    have h4 := ind_cases (d = a ∨ d = b)
    grind
  rw [e1, e2]
  have e3 : ((c = a ∧ d = b) ∨ (c = b ∧ d = a)) ↔ ((a = c ∧ b = d) ∨ (a = d ∧ b = c)) := by grind
  have e4 : (¬ sg (crossZ c d a) = sg (crossZ c d b) ∧ ¬ sg (crossZ a b c) = sg (crossZ a b d)) ↔ (¬ sg (crossZ a b c) = sg (crossZ a b d) ∧ ¬ sg (crossZ c d a) = sg (crossZ c d b)) := And.comm
  simp only [e3, e4]
theorem cls_swap2 {a b c d : Pt} (hab : a ≠ b) (hcd : c ≠ d) : cls a b d c = cls a b c d := by
  rw [cls_sym hcd.symm hab, cls_swap, cls_sym hab hcd]
theorem ref02_Class_eq {a b c d : Pt} (ha : May a) (hb : May b) (hc : May c) (hd : May d) : ref02_Class a b c d = some (cls a b c d) := by
  unfold ref02_Class
  have e3 : (decide (a = c) && decide (b = d) || decide (a = d) && decide (b = c)) = decide ((a = c ∧ b = d) ∨ (a = d ∧ b = c)) := by
    rw [Bool.eq_iff_iff]; simp
  rw [bind_some', bind_some', e3]
  unfold cls
  by_cases h5 : (a = c ∧ b = d) ∨ (a = d ∧ b = c)
  · rw [decide_eq_true h5, if_pos rfl, if_pos h5]
  rw [decide_eq_false h5, if_neg Bool.false_ne_true, if_neg h5]
  have s1 : ∀ (n bo : Int) (i : Nat) (p : Pt), May p → ix [a, b] (i : Int) = some p → i < 2 → (0 ≤ n ∧ n ≤ 4) → (0 ≤ bo ∧ bo ≤ 4) →
      ref02_Class_b1 a b c d n bo (i : Int) = some (.inl (n + ind (On c d p), bo + ind (p = c ∨ p = d), ((i + 1 : Nat) : Int))) := by
    intro n bo i p hm hp hi hn hb
    unfold ref02_Class_b1
    rw [decide_eq_true (show (i : Int) < 2 by omega), if_pos rfl, hp, bind_some', ref01_On_eq hc hd hm, bind_some']
    have h1 := ind_cases (On c d p)
    have h2 := ind_cases (p = c ∨ p = d)
    by_cases ho : On c d p
    · rw [decide_eq_true ho, if_pos rfl, bind_some']
      have hg : gd (!decide (p = c)) (some p) ((0, 0) : Pt) = some (if p = c then (0, 0) else p) := by
        by_cases h : p = c <;> simp [h]
      rw [hg, bind_some', bind_some']
      unfold ref02_Class_k2
      have e1 : ind (On c d p) = 1 := if_pos ho
      by_cases hq : p = c ∨ p = d
      · have e2 : ind (p = c ∨ p = d) = 1 := if_pos hq
        have e4 : (decide (p = c) || decide ((if p = c then (0, 0) else p) = d)) = true := by
          by_cases h' : p = c
          · rw [decide_eq_true h']; rfl
          · have h : p = d := hq.resolve_left h'
            rw [if_neg h', decide_eq_true h, Bool.or_true]
        rw [e4, if_pos rfl, e1, e2, ad_in (by omega), ad_in (by omega), ad_in (by omega)]; rfl
      · have e2 : ind (p = c ∨ p = d) = 0 := if_neg hq
        have e4 : (decide (p = c) || decide ((if p = c then (0, 0) else p) = d)) = false := by
          have h1 : ¬ p = c := fun h => hq (.inl h)
          have h2 : ¬ p = d := fun h => hq (.inr h)
          simp [h1, h2]
        rw [e4, if_neg Bool.false_ne_true, e1, e2, ad_in (by omega), ad_in (by omega), Int.add_zero]; rfl
    · rw [decide_eq_false ho, if_neg Bool.false_ne_true]
      have e1 : ind (On c d p) = 0 := if_neg ho
      have e2 : ind (p = c ∨ p = d) = 0 := if_neg (by rintro (h | h) <;> (subst h; first | exact ho (On_left _ _) | exact ho (On_right _ _)))
      unfold ref02_Class_k2
      rw [e1, e2, ad_in (by omega), Int.add_zero, Int.add_zero]; rfl
  have s3 : ∀ (n bo m : Int) (i : Nat) (p : Pt), May p → ix [c, d] (i : Int) = some p → i < 2 → (0 ≤ m ∧ m ≤ 4) →
      ref02_Class_b3 a b c d n bo m (i : Int) = some (.inl (m + ind (On a b p), ((i + 1 : Nat) : Int))) := by
    intro n bo m i p hm hp hi hn
    unfold ref02_Class_b3
    rw [decide_eq_true (show (i : Int) < 2 by omega), if_pos rfl, hp, bind_some', ref01_On_eq ha hb hm, bind_some']
    unfold ref02_Class_k4
    by_cases ho : On a b p
    · have e1 : ind (On a b p) = 1 := if_pos ho
      rw [decide_eq_true ho, if_pos rfl, e1, ad_in (by omega), ad_in (by omega)]; rfl
    · have e1 : ind (On a b p) = 0 := if_neg ho
      rw [decide_eq_false ho, if_neg Bool.false_ne_true, e1, ad_in (by omega), Int.add_zero]; rfl
  have j1 := ind_cases (On c d a)
  have j2 := ind_cases (On c d b)
  have j3 := ind_cases (On a b c)
  have j4 := ind_cases (On a b d)
  have j5 := ind_cases (a = c ∨ a = d)
  have j6 := ind_cases (b = c ∨ b = d)
  unfold ref02_Class_l1
  have u1 := s1 0 0 0 a ha rfl (by omega) (by omega) (by omega)
  have u2 := s1 (0 + ind (On c d a)) (0 + ind (a = c ∨ a = d)) 1 b hb rfl (by omega) (by omega) (by omega)
  rw [loopO_inl (body := fun s => ref02_Class_b1 a b c d s.1 s.2.1 s.2.2) (s := (0, 0, 0)) u1, loopO_inl (body := fun s => ref02_Class_b1 a b c d s.1 s.2.1 s.2.2) u2]
  refine loopO_inr ?_
  show ref02_Class_b1 a b c d (0 + ind (On c d a) + ind (On c d b)) (0 + ind (a = c ∨ a = d) + ind (b = c ∨ b = d)) ((1 + 1 : Nat) : Int) = _
  unfold ref02_Class_b1 ref02_Class_l3
  rw [decide_eq_false (show ¬ ((1 + 1 : Nat) : Int) < 2 by omega), if_neg Bool.false_ne_true]
  have u3 := s3 (0 + ind (On c d a) + ind (On c d b)) (0 + ind (a = c ∨ a = d) + ind (b = c ∨ b = d)) 0 0 c hc rfl (by omega) (by omega)
  have u4 := s3 (0 + ind (On c d a) + ind (On c d b)) (0 + ind (a = c ∨ a = d) + ind (b = c ∨ b = d)) (0 + ind (On a b c)) 1 d hd rfl (by omega) (by omega)
  rw [loopO_inl (body := fun s => ref02_Class_b3 a b c d _ _ s.1 s.2) (s := (0, 0)) u3, loopO_inl (body := fun s => ref02_Class_b3 a b c d _ _ s.1 s.2) u4]
  refine congrArg (Option.map Sum.inr) (loopO_inr ?_)
  show ref02_Class_b3 a b c d _ _ (0 + ind (On a b c) + ind (On a b d)) ((1 + 1 : Nat) : Int) = _
  unfold ref02_Class_b3
  rw [decide_eq_false (show ¬ ((1 + 1 : Nat) : Int) < 2 by omega), if_neg Bool.false_ne_true, ref01_Cross_eq ha hb hc, ref01_Cross_eq ha hb hd, ref01_Cross_eq hc hd ha, ref01_Cross_eq hc hd hb]
  simp only [bind_some', ref01_Sign_eq]
  rw [ad_in (by omega), sb_in (by omega)]
  have e1 : 0 + ind (On c d a) + ind (On c d b) + (0 + ind (On a b c) + ind (On a b d)) - (0 + ind (a = c ∨ a = d) + ind (b = c ∨ b = d)) = nOn a b c d - nBo a b c d := by unfold nOn nBo; omega
  have e2 : 0 + ind (a = c ∨ a = d) + ind (b = c ∨ b = d) = nBo a b c d := by unfold nBo; omega
  rw [e1, e2]
  simp only [decide_eq_true_eq]
  by_cases q1 : 1 < nOn a b c d - nBo a b c d
  · rw [if_pos q1, if_pos q1]; rfl
  rw [if_neg q1, if_neg q1]
  by_cases q2 : nOn a b c d - nBo a b c d = 1
  · rw [if_pos q2, if_pos q2]
    split <;> rfl
  rw [if_neg q2, if_neg q2]
  by_cases q3 : sg (crossZ a b c) = sg (crossZ a b d) <;> by_cases q4 : sg (crossZ c d a) = sg (crossZ c d b) <;> simp [q3, q4]
end Go.Proofs.Ythkmkmkcnljmaaa.Pl
