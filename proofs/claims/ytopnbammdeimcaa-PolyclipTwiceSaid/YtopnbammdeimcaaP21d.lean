/-
  PolyclipHalves. No program in sight.
-/
import Derived.Test.YtopnbammdeimcaaP21c
namespace Go.Proofs.Ytopnbammdeimcaa.Pl

theorem far_neg (c : Int) (y : Bool) (p : Pt) : far c false y p = - far c true y p := by
  unfold far
  by_cases h : (fl y p).1 = c
  · rw [if_pos h, if_pos h]; rfl
  · rw [if_neg h, if_neg h]
    by_cases h2 : c < (fl y p).1
    · rw [decide_eq_true h2]; rfl
    · rw [decide_eq_false h2]; rfl
theorem far_zero {c : Int} {up y : Bool} {p : Pt} (h : far c up y p = 0) : (fl y p).1 = c := by
  unfold far at h
  by_cases h1 : (fl y p).1 = c
  · exact h1
  · rw [if_neg h1] at h
    split at h <;> omega
theorem far_on {c : Int} {up y : Bool} {p : Pt} (h : (fl y p).1 = c) : far c up y p = 0 := if_pos h
def sh (e : Pt × Pt) : Int := e.1.1 * e.2.2 - e.2.1 * e.1.2
theorem cross_shoe (o : Pt) (l : List Pt) : csum (fun e => crossZ o e.1 e.2) l = csum sh l := by
  rw [← csum_edg, ← csum_edg]
  have key : ∀ g : Pt → Int, (∀ e : Pt × Pt, crossZ o e.1 e.2 = sh e + (g e.2 + - g e.1)) → sumZ ((edg l).map fun e => crossZ o e.1 e.2) = sumZ ((edg l).map sh) := by
    intro g e
    rw [show (fun e : Pt × Pt => crossZ o e.1 e.2) = fun e => sh e + (g e.2 + - g e.1) from funext e, sum_add, sum_add (fun e : Pt × Pt => g e.2), sum_neg (fun e : Pt × Pt => g e.1), sum_next g]
    omega
  exact key (fun p => p.1 * o.2 - p.2 * o.1) (fun e => by unfold crossZ sh; grind)
theorem csum_congr {f f' : Pt × Pt → Int} {l : List Pt} (h : ∀ e ∈ edg l, f e = f' e) : csum f l = csum f' l := by
  rw [← csum_edg, ← csum_edg]
  congr 1
  exact List.map_congr_left h
theorem csum_add (f g : Pt × Pt → Int) (l : List Pt) : csum (fun e => f e + g e) l = csum f l + csum g l := by
  rw [← csum_edg, ← csum_edg, ← csum_edg, sum_add]
theorem area_csum {l : List Pt} (hk : Ok l) : area l = csum sh l := by
  unfold area
  rw [aZ_shoe]
  by_cases h : 3 ≤ l.length
  · rw [if_pos ⟨h, hk⟩, ← csum_edg]; rfl
  · rw [if_neg (fun h' => h h'.1)]
    match l, h with
    | [], _ => rfl
    | [a], _ => simp only [csum, List.nil_append, psum, sh]; grind
    | [a, b], _ => simp only [csum, List.cons_append, List.nil_append, psum, sh]; grind
    | _ :: _ :: _ :: _, h => exact absurd (by simp) h
def org (c : Int) (y : Bool) : Pt := fl y (c, 0)
theorem org_cross {c : Int} {y : Bool} {a b : Pt} (ha : (fl y a).1 = c) (hb : (fl y b).1 = c) : crossZ (org c y) a b = 0 := by
  unfold org crossZ fl at *
  cases y
  · simp only [Bool.false_eq_true, if_false] at *
    rw [ha, hb]; simp
  · simp only [if_true] at *
    rw [ha, hb]; simp
/-- A side of a ring that is not cut. -/
def sd (c : Int) (up y : Bool) (l : List Pt) : List Pt := l.filter (fun p => decide (Up c up y p))
theorem sd_mem {c : Int} {up y : Bool} {l : List Pt} {p : Pt} (h : p ∈ sd c up y l) : p ∈ l ∧ 0 ≤ far c up y p := by
  unfold sd at h
  rw [List.mem_filter, decide_eq_true_eq] at h
  exact h
theorem sd_area {c : Int} {up y : Bool} {l : List Pt} (hv : ∀ e ∈ edg l, 0 ≤ far c up y e.1 * far c up y e.2) :
    csum sh (sd c up y l) = csum (fun e => if 0 ≤ far c up y e.1 ∧ 0 ≤ far c up y e.2 then crossZ (org c y) e.1 e.2 else 0) l := by
  rw [← cross_shoe (org c y)]
  have hq := flt_csum (P := Up c up y) (Q := fun p => far c up y p ≤ 0) (f := fun e => if 0 ≤ far c up y e.1 ∧ 0 ≤ far c up y e.2 then crossZ (org c y) e.1 e.2 else 0) (g := fun _ => 0)
    (fun a h => by unfold Up at h; omega)
    (fun a b ha hb => by
      simp only
      by_cases h : 0 ≤ far c up y a ∧ 0 ≤ far c up y b
      · rw [if_pos h, org_cross (far_zero (up := up) (by omega)) (far_zero (up := up) (by omega))]; rfl
      · rw [if_neg h]; rfl) (l := l)
    (fun e he => by
      have h := hv e he
      have h1 := far_bd c up y e.1
      have h2 := far_bd c up y e.2
      unfold Up
      have q1 : far c up y e.1 = -1 ∨ far c up y e.1 = 0 ∨ far c up y e.1 = 1 := by omega
      have q2 : far c up y e.2 = -1 ∨ far c up y e.2 = 0 ∨ far c up y e.2 = 1 := by omega
      rcases q1 with q1 | q1 | q1 <;> rcases q2 with q2 | q2 | q2 <;> rw [q1, q2] at h <;> simp only [q1, q2] <;> omega)
  rw [← hq]
  refine csum_congr fun e he => ?_
  have hm := edg_mem he
  rw [if_pos ⟨(sd_mem hm.1).2, (sd_mem hm.2).2⟩]
theorem halves_area {c : Int} {y : Bool} {l : List Pt} (hk : Ok l) (hv : ∀ e ∈ edg l, 0 ≤ far c true y e.1 * far c true y e.2) : area (sd c true y l) + area (sd c false y l) = area l := by
  have k1 : Ok (sd c true y l) := fun p hp => hk p (sd_mem hp).1
  have k2 : Ok (sd c false y l) := fun p hp => hk p (sd_mem hp).1
  have hv2 : ∀ e ∈ edg l, 0 ≤ far c false y e.1 * far c false y e.2 := fun e he => by
    rw [far_neg, far_neg, Int.neg_mul_neg]; exact hv e he
  rw [area_csum k1, area_csum k2, area_csum hk, sd_area hv, sd_area hv2, ← cross_shoe (org c y), ← csum_add]
  refine csum_congr fun e he => ?_
  have h := hv e he
  have h1 := far_bd c true y e.1
  have h2 := far_bd c true y e.2
  rw [far_neg, far_neg]
  by_cases z1 : far c true y e.1 = 0
  · by_cases z2 : far c true y e.2 = 0
    · have := org_cross (far_zero z1) (far_zero z2)
      rw [if_pos (by omega), if_pos (by omega)]; omega
    · by_cases g : 0 < far c true y e.2
      · rw [if_pos (by omega), if_neg (by omega)]; omega
      · rw [if_neg (by omega), if_pos (by omega)]; omega
  · by_cases g : 0 < far c true y e.1
    · have h3 : 0 ≤ far c true y e.2 := by
        have : far c true y e.1 = 1 := by omega
        rw [this] at h; omega
      rw [if_pos (by omega), if_neg (by omega)]; omega
    · have h3 : far c true y e.2 ≤ 0 := by
        have : far c true y e.1 = -1 := by omega
        rw [this] at h; omega
      rw [if_neg (by omega), if_pos (by omega)]; omega
theorem line_area {c : Int} {y : Bool} {l : List Pt} (hk : Ok l) (h : ∀ p ∈ l, (fl y p).1 = c) : area l = 0 := by
  rw [area_csum hk, ← cross_shoe (org c y)]
  have : csum (fun e => crossZ (org c y) e.1 e.2) l = csum (fun _ => 0) l := csum_congr fun e he => org_cross (h _ (edg_mem he).1) (h _ (edg_mem he).2)
  rw [this, ← csum_edg]
  generalize edg l = L
  induction L with
  | nil => rfl
  | cons x r ih => simp only [List.map_cons, sumZ, List.foldr_cons] at ih ⊢; omega
theorem area_bd' {l : List Pt} (hn : l.length ≤ 1000) : -2251799813685248000 ≤ area l ∧ area l ≤ 2251799813685248000 := by
  unfold area
  split
  · rename_i h
    rw [aZ_shoe]
    have hl := edg_len l
    have := sum_bd (f := fun e : Pt × Pt => e.1.1 * e.2.2 - e.2.1 * e.1.2) (W := 2251799813685248) (by omega) (edg l) (fun e he => shoe_bd (Ok_edg h.2 he).1 (Ok_edg h.2 he).2)
    unfold shoe
    omega
  · omega
def Sm (p : Pt) : Prop := (-1048576 ≤ p.1 ∧ p.1 ≤ 1048576) ∧ -1048576 ≤ p.2 ∧ p.2 ≤ 1048576
instance (p : Pt) : Decidable (Sm p) := by unfold Sm; infer_instance
theorem far_uncut {c : Int} {y : Bool} {p q : Pt} (h : ¬ Ct (fl y p).1 (fl y q).1 c) : 0 ≤ far c true y p * far c true y q := by
  unfold far
  unfold Ct at h
  by_cases h1 : (fl y p).1 = c
  · rw [if_pos h1]; simp
  · rw [if_neg h1]
    by_cases h2 : (fl y q).1 = c
    · rw [if_pos h2]; simp
    · rw [if_neg h2]
      by_cases h3 : c < (fl y p).1 <;> by_cases h4 : c < (fl y q).1 <;> simp only [h3, h4, decide_true, decide_false, if_true, Bool.false_eq_true, if_false] <;> omega
theorem loopO_bad {S R : Type} {body : S → Option (S ⊕ R)} (st : Nat → S) (n : Nat) (ok : Nat → Prop) (no : R) (h1 : ∀ k, k < n → ok k → body (st k) = some (.inl (st (k + 1)))) (h2 : ∀ k, k < n → ¬ ok k → body (st k) = some (.inr no)) (h : ∃ k, k < n ∧ ¬ ok k) : loopO body (st 0) = some no := by
  have hf : ∀ m, m ≤ n → (∃ k, m ≤ k ∧ k < n ∧ ¬ ok k) → loopO body (st m) = some no := fun m hm h => by
    induction hd : n - m generalizing m with
    | zero => obtain ⟨k, h4, h5, _⟩ := h; omega
    | succ d ih =>
      by_cases hk : ok m
      · rw [loopO_inl (h1 m (by omega) hk)]
        obtain ⟨k, h4, h5, h6⟩ := h
        refine ih (m + 1) (by omega) ⟨k, ?_, h5, h6⟩ (by omega)
        by_cases he : k = m
        · subst he; exact (h6 hk).elim
        · omega
      · exact loopO_inr (h2 m (by omega) hk)
  obtain ⟨k, h4, h5⟩ := h
  exact hf 0 (Nat.zero_le _) ⟨k, Nat.zero_le _, h4, h5⟩
theorem law21_PolyclipHalves_true (x0 : List (Int × Int)) (x1 : Int) (x2 : Bool) (k0 : ∀ y2 ∈ x0, I64 y2.1 ∧ I64 y2.2) (k1 : I64 x1) : law21_PolyclipHalves x0 x1 x2 = some true := by
  unfold law21_PolyclipHalves
  have hn := take40 x0
  rw [Cut_eq, bind_some']
  generalize x0.take 40 = l at hn
  unfold law21_PolyclipHalves_l1
  have hl := edg_len l
  have hb : ∀ k, k < l.length → law21_PolyclipHalves_b1 x1 x2 l (k : Int) = some (if Sm (l.getD k (0, 0)) ∧ ¬ Ct (fl x2 (l.getD k (0, 0))).1 (fl x2 (l.getD ((k + 1) % l.length) (0, 0))).1 x1 then .inl ((k + 1 : Nat) : Int) else .inr true) := by
    intro k hk
    unfold law21_PolyclipHalves_b1 law21_PolyclipHalves_k2
    rw [decide_eq_true (show (k : Int) < (l.length : Int) by omega), if_pos rfl, ix_getD (0, 0) hk, ad_one (by omega), rm_nat (by omega), known21]
    simp only [bind_some', mx_eq, mn_eq]
    rw [ix_getD (0, 0) (Nat.mod_lt _ (show 0 < l.length by omega))]
    generalize l.getD k (0, 0) = p
    generalize l.getD ((k + 1) % l.length) (0, 0) = q
    by_cases h1 : 1048576 < max p.1 p.2
    · rw [decide_eq_true h1, if_neg (show ¬ (Sm p ∧ _) from fun h => by unfold Sm at h; omega)]; rfl
    · rw [decide_eq_false h1]
      simp only [Bool.not_false, gd_true, bind_some', Bool.false_or]
      by_cases h2 : min p.1 p.2 < -1048576
      · rw [decide_eq_true h2, if_neg (show ¬ (Sm p ∧ _) from fun h => by unfold Sm at h; omega)]; rfl
      · rw [decide_eq_false h2]
        have hs : Sm p := by unfold Sm; omega
        have e : ∀ a b : Int, (if ((decide (a < x1) && decide (x1 < b)) || (decide (b < x1) && decide (x1 < a))) = true then (Option.map Sum.inr (some true) : Option (Int ⊕ Bool)) else some (Sum.inl ((k + 1 : Nat) : Int))) = some (if ¬ Ct a b x1 then .inl ((k + 1 : Nat) : Int) else .inr true) := by
          intro a b
          unfold Ct
          by_cases h3 : a < x1 ∧ x1 < b ∨ b < x1 ∧ x1 < a
          · rw [if_pos (by simpa using h3), if_neg (not_not_intro h3)]; rfl
          · rw [if_neg (by simpa using h3), if_pos h3]
        cases x2
        · simp only [Bool.false_eq_true, if_false, e, fl, hs, true_and]
        · simp only [Bool.false_eq_true, if_false, if_true, e, fl, hs, true_and]
  by_cases hs : ∀ k, k < l.length → Sm (l.getD k (0, 0)) ∧ ¬ Ct (fl x2 (l.getD k (0, 0))).1 (fl x2 (l.getD ((k + 1) % l.length) (0, 0))).1 x1
  · refine loopO_nat (body := fun s => law21_PolyclipHalves_b1 x1 x2 l s) (fun k => (k : Int)) l.length true (fun k hk => by
      simp only [hb k hk, if_pos (hs k hk)]) ?_
    have hk : Ok l := fun p hp => by
      obtain ⟨i, hi, rfl⟩ := mem_getD (d := ((0, 0) : Pt)) hp
      have := (hs i hi).1
      unfold Sm at this
      unfold May
      omega
    have hu : ∀ e ∈ edg l, ¬ Ct (fl x2 e.1).1 (fl x2 e.2).1 x1 := fun e he => by
      obtain ⟨i, hi, rfl⟩ := mem_getD (d := (((0, 0), (0, 0)) : Pt × Pt)) he
      rw [edg_at (by omega)]
      exact (hs i (by omega)).2
    have hv : ∀ e ∈ edg l, 0 ≤ far x1 true x2 e.1 * far x1 true x2 e.2 := fun e he => far_uncut (hu e he)
    have hv2 : ∀ e ∈ edg l, 0 ≤ far x1 false x2 e.1 * far x1 false x2 e.2 := fun e he => by rw [far_neg, far_neg, Int.neg_mul_neg]; exact hv e he
    have l1 : (sd x1 true x2 l).length ≤ l.length := List.length_filter_le _ _
    have l2 : (sd x1 false x2 l).length ≤ l.length := List.length_filter_le _ _
    have l3 : (sd x1 false x2 (sd x1 true x2 l)).length ≤ (sd x1 true x2 l).length := List.length_filter_le _ _
    have e1 : hf x1 true x2 l = sd x1 true x2 l := hf_flt fun e he => .inl (hv e he)
    have e2 : hf x1 false x2 l = sd x1 false x2 l := hf_flt fun e he => .inl (hv2 e he)
    have e3 : hf x1 false x2 (sd x1 true x2 l) = sd x1 false x2 (sd x1 true x2 l) := hf_flt fun e he => .inl (by
      have h1 := (sd_mem (edg_mem he).1).2
      have h2 := (sd_mem (edg_mem he).2).2
      rw [far_neg, far_neg, Int.neg_mul_neg]
      exact Int.mul_nonneg h1 h2)
    have hz : area (sd x1 false x2 (sd x1 true x2 l)) = 0 := line_area (c := x1) (y := x2) (fun p hp => hk p (sd_mem (sd_mem hp).1).1) (fun p hp => by
      have h1 := (sd_mem hp).2
      have h2 := (sd_mem (sd_mem hp).1).2
      rw [far_neg] at h1
      exact far_zero (up := true) (by omega))
    have ha := halves_area hk hv
    have b1 := area_bd' (l := l) (by omega)
    unfold law21_PolyclipHalves_b1
    rw [decide_eq_false (by omega), if_neg Bool.false_ne_true, Half_eq _ _ _ (by omega), bind_some', Half_eq _ _ _ (by omega), bind_some', e1, Half_eq _ _ _ (by omega), bind_some', e2, e3, known21, bind_some', Area_eq (by omega), Area_eq (by omega), Area_eq (by omega), Area_eq (by omega)]
    simp only [gd_true, bind_some', Bool.true_and]
    rw [ad_in (by omega), ha, hz]
    simp
  · refine loopO_bad (body := fun s => law21_PolyclipHalves_b1 x1 x2 l s) (fun k => (k : Int)) l.length (fun k => Sm (l.getD k (0, 0)) ∧ ¬ Ct (fl x2 (l.getD k (0, 0))).1 (fl x2 (l.getD ((k + 1) % l.length) (0, 0))).1 x1) true (fun k hk ho => by simp only [hb k hk, if_pos ho]) (fun k hk ho => by simp only [hb k hk, if_neg ho]) (Classical.byContradiction fun hc => hs fun k hk => Classical.byContradiction fun h => hc ⟨k, hk, h⟩)
end Go.Proofs.Ytopnbammdeimcaa.Pl
