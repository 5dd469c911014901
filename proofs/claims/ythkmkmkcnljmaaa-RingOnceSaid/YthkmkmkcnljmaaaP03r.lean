import Derived.Test.YthkmkmkcnljmaaaP03q
namespace Go.Proofs.Ythkmkmkcnljmaaa.Pl
set_option maxRecDepth 4000
theorem no_same {p q u v t : Rat} (h : (v - t) * p + (t - u) * q = 0) (hne : u ≠ v) (ht : (u ≤ t ∧ t ≤ v) ∨ (v ≤ t ∧ t ≤ u)) : ¬ (0 < p ∧ 0 < q) ∧ ¬ (p < 0 ∧ q < 0) := by
  have go : ∀ p q : Rat, (v - t) * p + (t - u) * q = 0 → ¬ (0 < p ∧ 0 < q) := fun p q h ⟨hp, hq⟩ => by
    rcases ht with ⟨h1, h2⟩ | ⟨h1, h2⟩
    · have a1 := Rat.mul_nonneg (show 0 ≤ v - t by grind) (show 0 ≤ p by grind)
      have a2 := Rat.mul_nonneg (show 0 ≤ t - u by grind) (show 0 ≤ q by grind)
      by_cases e : t = v
      · have a3 := Rat.mul_pos (show 0 < t - u by grind) hq
        grind
      · have a3 := Rat.mul_pos (show 0 < v - t by grind) hp
        grind
    · have a1 := Rat.mul_nonneg (show 0 ≤ t - v by grind) (show 0 ≤ p by grind)
      have a2 := Rat.mul_nonneg (show 0 ≤ u - t by grind) (show 0 ≤ q by grind)
      by_cases e : t = v
      · have a3 := Rat.mul_pos (show 0 < u - t by grind) hq
        grind
      · have a3 := Rat.mul_pos (show 0 < t - v by grind) hp
        grind
  refine ⟨go p q h, fun ⟨hp, hq⟩ => go (-p) (-q) (by grind) ⟨by grind, by grind⟩⟩
section
variable {σ : Int} (hσ : σ = 1 ∨ σ = -1)
include hσ
theorem OnL {c d a : Pt} (hc : May c) (hd : May d) (hcd : c ≠ d) (h : crossZ c d a = 0) (hl : (Yl σ c ≤ Yl σ a ∧ Yl σ a ≤ Yl σ d) ∨ (Yl σ d ≤ Yl σ a ∧ Yl σ a ≤ Yl σ c)) : On c d a := by
  have go : ∀ c d : Pt, May c → May d → c ≠ d → crossZ c d a = 0 → Yl σ c ≤ Yl σ a → Yl σ a ≤ Yl σ d → On c d a := fun c d hc hd hcd h h1 h2 => by
    rw [On_btw]
    have hne : Yl σ c ≠ Yl σ d := fun e => hcd (Yl_inj hσ hc hd e)
    have e1 : (Yl σ d - Yl σ c) * (a.1 - c.1) = (Yl σ a - Yl σ c) * (d.1 - c.1) := by
      unfold crossZ at h
      unfold Yl
      grind
    have e2 : (Yl σ d - Yl σ c) * (a.2 - c.2) = (Yl σ a - Yl σ c) * (d.2 - c.2) := by
      unfold crossZ at h
      unfold Yl
      rcases hσ with rfl | rfl <;> grind
    exact ⟨h, btw_back (L := Yl σ d - Yl σ c) (d := Yl σ a - Yl σ c) (by omega) e1 (by omega) (by omega), btw_back (L := Yl σ d - Yl σ c) (d := Yl σ a - Yl σ c) (by omega) e2 (by omega) (by omega)⟩
  rcases hl with ⟨h1, h2⟩ | ⟨h1, h2⟩
  · exact go c d hc hd hcd h h1 h2
  · rw [← On_swap]
    exact go d c hd hc (fun e => hcd e.symm) (by rw [crossZ_swap, h]; rfl) h1 h2
omit hσ in
theorem on_both {a b c d : Pt} (hA : (emb σ a).2 ≠ (emb σ b).2) (hC : (emb σ c).2 ≠ (emb σ d).2) {t : Rat} (he : Jor.xat (emb σ c) (emb σ d) t = Jor.xat (emb σ a) (emb σ b) t) :
    ((Yl σ d : Rat) - t) * ((crossZ a b c : Int) : Rat) + (t - (Yl σ c : Rat)) * ((crossZ a b d : Int) : Rat) = 0 := by
  have e1 := xat_cross hA (Jor.xat (emb σ a) (emb σ b) t) t
  have e2 := xat_cross hC (Jor.xat (emb σ a) (emb σ b) t) t
  rw [he] at e2
  generalize Jor.xat (emb σ a) (emb σ b) t = x at *
  have q3 : ∀ p : Pt, (Yl σ p : Rat) = 134217728 * (p.2 : Rat) - (σ : Rat) * (p.1 : Rat) := fun p => by unfold Yl; push_cast; rfl
  have q2 : ∀ p : Pt, ((crossZ a b p : Int) : Rat) = ((b.1 : Rat) - a.1) * ((p.2 : Rat) - a.2) - ((b.2 : Rat) - a.2) * ((p.1 : Rat) - a.1) := fun p => by unfold crossZ; push_cast; rfl
  unfold emb at e1 e2 hC
  dsimp only at e1 e2 hC
  rw [q2, q2]
  rw [q3, q3] at e1 e2 ⊢
  grind
omit hσ in
theorem spn_cast {a b : Pt} {t : Rat} (h : Jor.spn (emb σ a) (emb σ b) t) : ((Yl σ a : Rat) ≤ t ∧ t ≤ (Yl σ b : Rat)) ∨ ((Yl σ b : Rat) ≤ t ∧ t ≤ (Yl σ a : Rat)) := h
omit hσ in
theorem overlap {a b c d : Int} {t : Rat} (h1 : ((a : Rat) ≤ t ∧ t ≤ (b : Rat)) ∨ ((b : Rat) ≤ t ∧ t ≤ (a : Rat))) (h2 : ((c : Rat) ≤ t ∧ t ≤ (d : Rat)) ∨ ((d : Rat) ≤ t ∧ t ≤ (c : Rat))) :
    ((c ≤ a ∧ a ≤ d) ∨ (d ≤ a ∧ a ≤ c)) ∨ ((c ≤ b ∧ b ≤ d) ∨ (d ≤ b ∧ b ≤ c)) ∨ ((a ≤ c ∧ c ≤ b) ∨ (b ≤ c ∧ c ≤ a)) ∨ ((a ≤ d ∧ d ≤ b) ∨ (b ≤ d ∧ d ≤ a)) := by
  have go : ∀ x y : Int, (x : Rat) ≤ t → t ≤ (y : Rat) → x ≤ y := fun x y hx hy => cast_le.1 (by grind)
  rcases h1 with ⟨p1, p2⟩ | ⟨p1, p2⟩ <;> rcases h2 with ⟨q1, q2⟩ | ⟨q1, q2⟩
  · have := go _ _ p1 q2; have := go _ _ q1 p2; omega
  · have := go _ _ p1 q2; have := go _ _ q1 p2; omega
  · have := go _ _ p1 q2; have := go _ _ q1 p2; omega
  · have := go _ _ p1 q2; have := go _ _ q1 p2; omega
theorem nc_apart {a b c d : Pt} (ha : May a) (hb : May b) (hc : May c) (hd : May d) (hab : a ≠ b) (hcd : c ≠ d) (h1 : a ≠ c) (h2 : a ≠ d) (h3 : b ≠ c) (h4 : b ≠ d) (hcls : cls a b c d = 0) {t : Rat}
    (s1 : Jor.spn (emb σ a) (emb σ b) t) (s2 : Jor.spn (emb σ c) (emb σ d) t) : Jor.xat (emb σ c) (emb σ d) t ≠ Jor.xat (emb σ a) (emb σ b) t := fun he => by
  have hA : (emb σ a).2 ≠ (emb σ b).2 := fun e => hab (Yl_inj hσ ha hb (cast_eq.1 e))
  have hC : (emb σ c).2 ≠ (emb σ d).2 := fun e => hcd (Yl_inj hσ hc hd (cast_eq.1 e))
  have e1 := no_same (on_both hA hC he) hC (spn_cast s2)
  have e2 := no_same (on_both hC hA he.symm) hA (spn_cast s1)
  have z : ∀ n : Int, ((0 : Rat) < (n : Rat) ↔ 0 < n) ∧ ((n : Rat) < 0 ↔ n < 0) := fun n => ⟨by exact_mod_cast Iff.rfl, by exact_mod_cast Iff.rfl⟩
  rw [(z _).1, (z _).1, (z _).2, (z _).2] at e1 e2
  have hno : nBo a b c d = 0 := by
    unfold nBo
    rcases ind_cases (a = c ∨ a = d) with q | q <;> rcases ind_cases (b = c ∨ b = d) with r | r <;> grind
  unfold cls at hcls
  rw [if_neg (by grind), hno] at hcls
  have hN : nOn a b c d = 0 ∧ (sg (crossZ a b c) = sg (crossZ a b d) ∨ sg (crossZ c d a) = sg (crossZ c d b)) := by
    have h0 : 0 ≤ nOn a b c d := by
      unfold nOn
      rcases ind_cases (On c d a) with q | q <;> rcases ind_cases (On c d b) with r | r <;> rcases ind_cases (On a b c) with u | u <;> rcases ind_cases (On a b d) with v | v <;> omega
    grind
  have hOn : ¬ On c d a ∧ ¬ On c d b ∧ ¬ On a b c ∧ ¬ On a b d := by
    have h0 := hN.1
    unfold nOn at h0
    rcases ind_cases (On c d a) with q | q <;> rcases ind_cases (On c d b) with r | r <;> rcases ind_cases (On a b c) with u | u <;> rcases ind_cases (On a b d) with v | v <;> first | (exact ⟨q.1, r.1, u.1, v.1⟩) | (exfalso; omega)
  have hall : (crossZ a b c = 0 ∧ crossZ a b d = 0) ∧ (crossZ c d a = 0 ∧ crossZ c d b = 0) := by
    have t1 := sg_cases (crossZ a b c)
    have t2 := sg_cases (crossZ a b d)
    have t3 := sg_cases (crossZ c d a)
    have t4 := sg_cases (crossZ c d b)
    rcases hN.2 with e | e
    · have hz : crossZ a b c = 0 ∧ crossZ a b d = 0 := by omega
      exact ⟨hz, col_sym hab hz.1 hz.2⟩
    · have hz : crossZ c d a = 0 ∧ crossZ c d b = 0 := by omega
      exact ⟨col_sym hcd hz.1 hz.2, hz⟩
  rcases overlap (spn_cast s1) (spn_cast s2) with o | o | o | o
  · exact hOn.1 (OnL hσ hc hd hcd hall.2.1 o)
  · exact hOn.2.1 (OnL hσ hc hd hcd hall.2.2 o)
  · exact hOn.2.2.1 (OnL hσ ha hb hab hall.1.1 o)
  · exact hOn.2.2.2 (OnL hσ ha hb hab hall.1.2 o)
theorem nc_touch {a b d : Pt} (ha : May a) (hb : May b) (hd : May d) (hab : a ≠ b) (hbd : b ≠ d) (had : a ≠ d) (hcls : cls a b b d = 1) {t : Rat}
    (s1 : Jor.spn (emb σ a) (emb σ b) t) (s2 : Jor.spn (emb σ b) (emb σ d) t) (he : Jor.xat (emb σ b) (emb σ d) t = Jor.xat (emb σ a) (emb σ b) t) : t = (Yl σ b : Rat) := by
  have hA : (emb σ a).2 ≠ (emb σ b).2 := fun e => hab (Yl_inj hσ ha hb (cast_eq.1 e))
  have hC : (emb σ b).2 ≠ (emb σ d).2 := fun e => hbd (Yl_inj hσ hb hd (cast_eq.1 e))
  have e1 := on_both hA hC he
  rw [crossZ_right] at e1
  by_cases hz : crossZ a b d = 0
  · have hno : nBo a b b d = 1 := by
      unfold nBo
      rcases ind_cases (a = b ∨ a = d) with q | q <;> rcases ind_cases (b = b ∨ b = d) with r | r <;> grind
    unfold cls at hcls
    rw [if_neg (by grind), hno] at hcls
    have hN : nOn a b b d = 2 := by grind
    have o1 := On_left b d
    have o2 := On_right a b
    have hOn : ¬ On b d a ∧ ¬ On a b d := by
      unfold nOn at hN
      rcases ind_cases (On b d a) with q | q <;> rcases ind_cases (On b d b) with r | r <;> rcases ind_cases (On a b b) with u | u <;> rcases ind_cases (On a b d) with v | v <;> first | (exact ⟨q.1, v.1⟩) | (exfalso; omega) | (exfalso; exact r.1 o1) | (exfalso; exact u.1 o2)
    have hz2 : crossZ b d a = 0 := by rw [crossZ_turn]; exact hz
    have f1 := spn_cast s1
    have f2 := spn_cast s2
    by_cases hlt : t < (Yl σ b : Rat)
    · exfalso
      have g1 : Yl σ a < Yl σ b := cast_lt.1 (by grind)
      have g2 : Yl σ d < Yl σ b := cast_lt.1 (by grind)
      by_cases hc : Yl σ a ≤ Yl σ d
      · exact hOn.2 (OnL hσ ha hb hab hz (by omega))
      · exact hOn.1 (OnL hσ hb hd hbd hz2 (by omega))
    · by_cases e : t = (Yl σ b : Rat)
      · exact e
      · exfalso
        have g1 : Yl σ b < Yl σ a := cast_lt.1 (by grind)
        have g2 : Yl σ b < Yl σ d := cast_lt.1 (by grind)
        by_cases hc : Yl σ a ≤ Yl σ d
        · exact hOn.1 (OnL hσ hb hd hbd hz2 (by omega))
        · exact hOn.2 (OnL hσ ha hb hab hz (by omega))
  · have hz' : ((crossZ a b d : Int) : Rat) ≠ 0 := by exact_mod_cast hz
    have : (t - (Yl σ b : Rat)) * ((crossZ a b d : Int) : Rat) = 0 := by
      have : ((0 : Int) : Rat) = 0 := rfl
      grind
    rcases Rat.mul_eq_zero.1 this with h | h
    · grind
    · exact (hz' h).elim
end
def pQ (σ : Int) (l : List Pt) (i : Nat) : Jor.Q2 := emb σ (pt l (i % l.length))
theorem Simple.ring {σ : Int} (hσ : σ = 1 ∨ σ = -1) {l : List Pt} (h : Simple l) : Jor.Ring l.length (pQ σ l) := by
  obtain ⟨⟨h3, hOk⟩, hD, hP⟩ := h
  have hn : 0 < l.length := by omega
  have hM : ∀ i, May (pt l (i % l.length)) := fun i => hOk _ (getD_mem (Nat.mod_lt _ hn))
  have hmod : ∀ i k, 0 < k → k < l.length → i % l.length ≠ (i + k) % l.length := fun i k h0 hk e => by
    have e1 := Nat.mod_add_div i l.length
    have e2 := Nat.mod_add_div (i + k) l.length
    rw [← e] at e2
    have e3 : l.length * ((i + k) / l.length) = l.length * (i / l.length) + k := by omega
    rcases Nat.lt_or_ge ((i + k) / l.length) (i / l.length + 1) with q | q
    · have := Nat.mul_le_mul_left l.length (show (i + k) / l.length ≤ i / l.length by omega)
      omega
    · have := Nat.mul_le_mul_left l.length q
      rw [Nat.mul_add] at this
      omega
  have hne : ∀ i k, 0 < k → k < l.length → pt l (i % l.length) ≠ pt l ((i + k) % l.length) := fun i k h0 hk => Dis_ne hD (Nat.mod_lt _ hn) (Nat.mod_lt _ hn) (hmod i k h0 hk)
  have hne1 : ∀ i, pt l (i % l.length) ≠ pt l ((i + 1) % l.length) := fun i => hne i 1 (by omega) (by omega)
  have hcl : ∀ i k, 0 < k → k < l.length → cls (pt l (i % l.length)) (pt l ((i + 1) % l.length)) (pt l ((i + k) % l.length)) (pt l ((i + k + 1) % l.length)) = if k = 1 ∨ k + 1 = l.length then 1 else 0 := fun i k h0 hk => by
    have eI : (i % l.length + 1) % l.length = (i + 1) % l.length := Nat.mod_add_mod i l.length 1
    have eK : ((i + k) % l.length + 1) % l.length = (i + k + 1) % l.length := Nat.mod_add_mod (i + k) l.length 1
    have hI := Nat.mod_lt i hn
    have hK := Nat.mod_lt (i + k) hn
    have hIK : (i + k) % l.length = i % l.length + k ∨ (i + k) % l.length + l.length = i % l.length + k := by
      rw [← Nat.mod_add_mod i l.length k]
      rcases Nat.lt_or_ge (i % l.length + k) l.length with q | q
      · left; exact Nat.mod_eq_of_lt q
      · right
        rw [Nat.mod_eq_sub_mod q, Nat.mod_eq_of_lt (by omega)]; omega
    rcases Nat.lt_or_ge (i % l.length) ((i + k) % l.length) with q | q
    · have := hP _ hK _ q
      unfold PrO clR at this
      rw [eI, eK] at this
      rw [this]
      by_cases hc : k = 1 ∨ k + 1 = l.length
      · rw [if_pos hc, if_pos (by unfold Adj; omega)]
      · rw [if_neg hc, if_neg (by unfold Adj; omega)]
    · have := hP _ hI _ (show (i + k) % l.length < i % l.length by have := hmod i k h0 hk; omega)
      unfold PrO clR at this
      rw [eI, eK] at this
      rw [cls_sym (hne1 (i + k)) (hne1 i), this]
      by_cases hc : k = 1 ∨ k + 1 = l.length
      · rw [if_pos hc, if_pos (by unfold Adj; omega)]
      · rw [if_neg hc, if_neg (by unfold Adj; omega)]
  refine ⟨h3, fun i => by unfold pQ; rw [Nat.add_mod_right], fun i k h0 hk e => hne i k h0 hk (Yl_inj hσ (hM _) (hM _) (cast_eq.1 e)), fun i k t h0 hk s1 s2 he => ?_⟩
  have hc := hcl i k h0 hk
  by_cases k1 : k = 1
  · subst k1
    left
    refine ⟨rfl, ?_⟩
    rw [if_pos (.inl rfl)] at hc
    exact nc_touch hσ (hM i) (hM (i + 1)) (hM (i + 1 + 1)) (hne1 i) (hne1 (i + 1)) (hne i 2 (by omega) (by omega)) hc s1 s2 he
  · by_cases k2 : k + 1 = l.length
    · right
      refine ⟨k2, ?_⟩
      rw [if_pos (.inr k2)] at hc
      have eP : (i + k + 1) % l.length = i % l.length := by rw [show i + k + 1 = i + l.length by omega, Nat.add_mod_right]
      have eQ : pQ σ l (i + k + 1) = pQ σ l i := by unfold pQ; rw [eP]
      rw [eP, cls_sym (by have := hne1 (i + k); rw [eP] at this; exact this) (hne1 i)] at hc
      rw [eQ] at s2 he
      have hd : pt l ((i + k) % l.length) ≠ pt l ((i + 1) % l.length) := fun e => by
        have := hne (i + 1) (k - 1) (by omega) (by omega)
        rw [show i + 1 + (k - 1) = i + k by omega] at this
        exact this e.symm
      exact nc_touch hσ (hM (i + k)) (hM i) (hM (i + 1)) (by have := hne1 (i + k); rw [eP] at this; exact this) (hne1 i) hd hc s2 s1 he.symm
    · rw [if_neg (by omega)] at hc
      refine (nc_apart hσ (hM i) (hM (i + 1)) (hM (i + k)) (hM (i + k + 1)) (hne1 i) (hne1 (i + k)) (hne i k h0 hk) (hne i (k + 1) (by omega) (by omega)) ?_ ?_ hc s1 s2 he).elim
      · have := hne (i + 1) (k - 1) (by omega) (by omega)
        rwa [show i + 1 + (k - 1) = i + k by omega] at this
      · have := hne (i + 1) k h0 hk
        rwa [show i + 1 + k = i + k + 1 by omega] at this
end Go.Proofs.Ythkmkmkcnljmaaa.Pl
