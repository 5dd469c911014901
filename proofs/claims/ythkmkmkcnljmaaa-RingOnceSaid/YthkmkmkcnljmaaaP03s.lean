import Derived.Test.YthkmkmkcnljmaaaP03r
namespace Go.Proofs.Ythkmkmkcnljmaaa.Pl
set_option maxRecDepth 4000
theorem sum_nat {X : Type} (f : X → Int) (d : X) : ∀ L : List X, sumZ (L.map f) = Jor.sumN (fun j => f (L.getD j d)) L.length
  | [] => rfl
  | x :: L => by
    rw [List.length_cons, Jor.sumN_front, List.map_cons]
    show f x + sumZ (L.map f) = _
    rw [sum_nat f d L]; rfl
theorem sum_edg (f : Pt × Pt → Int) (l : List Pt) : sumZ ((edg l).map f) = Jor.sumN (fun j => f (pt l (j % l.length), pt l ((j + 1) % l.length))) l.length := by
  rw [sum_nat f ((0, 0), (0, 0)), edg_len]
  refine Jor.sumN_congr fun j hj => ?_
  rw [edg_at hj, Nat.mod_eq_of_lt hj]; rfl
theorem sumQ_cast (f : Nat → Int) : ∀ n, Jor.sumQ (fun j => ((f j : Int) : Rat)) n = ((Jor.sumN f n : Int) : Rat)
  | 0 => rfl
  | n + 1 => by
    rw [Jor.sumQ, Jor.sumN, sumQ_cast f n]; push_cast; rfl
theorem area_cast (σ : Int) {l : List Pt} (hn : 0 < l.length) : Jor.area l.length (pQ σ l) = ((134217728 * shoe l : Int) : Rat) := by
  have e1 : Jor.area l.length (pQ σ l) = ((Jor.sumN (fun j => ((pt l (j % l.length)).1 + (pt l ((j + 1) % l.length)).1) * (Yl σ (pt l ((j + 1) % l.length)) - Yl σ (pt l (j % l.length)))) l.length : Int) : Rat) := by
    rw [← sumQ_cast]
    refine Jor.sumQ_congr fun j _ => ?_
    unfold Jor.area2 pQ emb
    push_cast; rfl
  rw [e1]
  congr 1
  have g : ∀ j, (fun j => 134217728 * ((pt l (j % l.length)).1 * (pt l (j % l.length)).2) - σ * ((pt l (j % l.length)).1 * (pt l (j % l.length)).1)) j = (fun p : Pt => 134217728 * (p.1 * p.2) - σ * (p.1 * p.1)) (pt l (j % l.length)) := fun _ => rfl
  have tel := Jor.sumN_tel (fun j => (fun p : Pt => 134217728 * (p.1 * p.2) - σ * (p.1 * p.1)) (pt l (j % l.length))) l.length
  rw [Nat.mod_self, Nat.zero_mod, Int.sub_self] at tel
  have e2 := Jor.sumN_sub (fun j => ((pt l (j % l.length)).1 + (pt l ((j + 1) % l.length)).1) * (Yl σ (pt l ((j + 1) % l.length)) - Yl σ (pt l (j % l.length)))) (fun j => 134217728 * ((pt l (j % l.length)).1 * (pt l ((j + 1) % l.length)).2 - (pt l ((j + 1) % l.length)).1 * (pt l (j % l.length)).2)) l.length
  have e3 := Jor.sumN_add (fun j => ((pt l (j % l.length)).1 + (pt l ((j + 1) % l.length)).1) * (Yl σ (pt l ((j + 1) % l.length)) - Yl σ (pt l (j % l.length))) - 134217728 * ((pt l (j % l.length)).1 * (pt l ((j + 1) % l.length)).2 - (pt l ((j + 1) % l.length)).1 * (pt l (j % l.length)).2)) (fun j => (fun p : Pt => 134217728 * (p.1 * p.2) - σ * (p.1 * p.1)) (pt l (j % l.length)) - (fun p : Pt => 134217728 * (p.1 * p.2) - σ * (p.1 * p.1)) (pt l ((j + 1) % l.length))) l.length
  rw [Jor.sumN_zero (fun j _ => by
    dsimp only
    generalize pt l (j % l.length) = a
    generalize pt l ((j + 1) % l.length) = b
    unfold Yl
    grind)] at e3
  have e4 : Jor.sumN (fun j => 134217728 * ((pt l (j % l.length)).1 * (pt l ((j + 1) % l.length)).2 - (pt l ((j + 1) % l.length)).1 * (pt l (j % l.length)).2)) l.length = 134217728 * shoe l := by
    unfold shoe
    rw [sum_edg]
    generalize l.length = m
    have : ∀ (f : Nat → Int) (n : Nat), Jor.sumN (fun j => 134217728 * f j) n = 134217728 * Jor.sumN f n := by
      intro f n
      induction n with
      | zero => rfl
      | succ n ih => rw [Jor.sumN, Jor.sumN, ih]; omega
    exact this (fun j => (pt l (j % m)).1 * (pt l ((j + 1) % m)).2 - (pt l ((j + 1) % m)).1 * (pt l (j % m)).2) m
  omega
theorem wZ_W {l : List Pt} (hk : Ok l) (hn : 0 < l.length) {p : Pt} (hp : May p) : wZ l p = Jor.W l.length (pQ 1 l) (p.1 : Rat) (Yl 1 p : Rat) := by
  unfold wZ Jor.W
  rw [sum_edg]
  refine Jor.sumN_congr fun j _ => ?_
  have h1 : May (pt l (j % l.length)) := hk _ (getD_mem (Nat.mod_lt _ hn))
  have h2 : May (pt l ((j + 1) % l.length)) := hk _ (getD_mem (Nat.mod_lt _ hn))
  unfold pQ
  rw [core (k := 1) (m := p) (.inl rfl) (.inl rfl) h1 h2 (by unfold MayK; unfold May at hp; omega) (by grind) (by grind)]
  generalize pt l (j % l.length) = a
  generalize pt l ((j + 1) % l.length) = b
  have e : sdK 1 p a b = crossZ a b p := by unfold sdK crossZ; grind
  unfold wnd cntK
  simp only [Lo_one, e]
  grind
def MidOn (m c d : Pt) : Prop := sdK 2 m c d = 0 ∧ (((2 * c.2 ≤ m.2 ∧ m.2 ≤ 2 * d.2) ∨ (2 * d.2 ≤ m.2 ∧ m.2 ≤ 2 * c.2)) ∧ (c.2 = d.2 → (2 * c.1 ≤ m.1 ∧ m.1 ≤ 2 * d.1) ∨ (2 * d.1 ≤ m.1 ∧ m.1 ≤ 2 * c.1)))
theorem mid_spn {σ : Int} (hσ : σ = 1 ∨ σ = -1) {m c d : Pt} (hc : May c) (hd : May d) (hcd : c ≠ d) (h : MidOn m c d) {x t : Rat} (hx : 2 * x = (m.1 : Rat)) (ht : 2 * t = (Yl σ m : Rat)) : Jor.spn (emb σ c) (emb σ d) t ∧ Jor.xat (emb σ c) (emb σ d) t = x := by
  obtain ⟨h0, h1, h2⟩ := h
  have hne : Yl σ c ≠ Yl σ d := fun e => hcd (Yl_inj hσ hc hd e)
  constructor
  · have hY : (2 * Yl σ c ≤ Yl σ m ∧ Yl σ m ≤ 2 * Yl σ d) ∨ (2 * Yl σ d ≤ Yl σ m ∧ Yl σ m ≤ 2 * Yl σ c) := by
      by_cases hu : c.2 = d.2
      · have h2 := h2 hu
        unfold Yl
        rcases hσ with rfl | rfl <;> omega
      · have e1 : (d.2 - c.2) * (Yl σ m - 2 * Yl σ c) = (m.2 - 2 * c.2) * (Yl σ d - Yl σ c) := by unfold sdK at h0; unfold Yl; grind
        have e2 : (d.2 - c.2) * (2 * Yl σ d - Yl σ m) = (2 * d.2 - m.2) * (Yl σ d - Yl σ c) := by unfold sdK at h0; unfold Yl; grind
        have p1 := prod_sign (d.2 - c.2) (Yl σ m - 2 * Yl σ c)
        have p2 := prod_sign (d.2 - c.2) (2 * Yl σ d - Yl σ m)
        have q1 := prod_sign (Yl σ d - Yl σ c) (m.2 - 2 * c.2)
        have q2 := prod_sign (Yl σ d - Yl σ c) (2 * d.2 - m.2)
        rw [Int.mul_comm (Yl σ d - Yl σ c)] at q1 q2
        rw [← e1] at q1
        rw [← e2] at q2
        have hY1 : (c.2 < d.2 → Yl σ c < Yl σ d) ∧ (d.2 < c.2 → Yl σ d < Yl σ c) := by
          unfold May at hc hd
          unfold Yl
          rcases hσ with rfl | rfl <;> omega
        generalize (d.2 - c.2) * (Yl σ m - 2 * Yl σ c) = z1 at *
        generalize (d.2 - c.2) * (2 * Yl σ d - Yl σ m) = z2 at *
        rcases Int.lt_or_gt_of_ne hu with g | g
        · have := hY1.1 g; omega
        · have := hY1.2 g; omega
    have c2 : ∀ z : Int, ((2 * z : Int) : Rat) = 2 * (z : Rat) := fun z => by push_cast; rfl
    unfold Jor.spn emb
    dsimp only
    rcases hY with ⟨y1, y2⟩ | ⟨y1, y2⟩
    · left
      have y1 := cast_le.2 y1
      have y2 := cast_le.2 y2
      rw [c2] at y1 y2
      grind
    · right
      have y1 := cast_le.2 y1
      have y2 := cast_le.2 y2
      rw [c2] at y1 y2
      grind
  · have e := xat_cross (A := emb σ c) (B := emb σ d) (fun e => hne (cast_eq.1 e)) x t
    have q2 : ((sdK 2 m c d : Int) : Rat) = ((d.1 : Rat) - c.1) * ((m.2 : Rat) - 2 * c.2) - ((d.2 : Rat) - c.2) * ((m.1 : Rat) - 2 * c.1) := by unfold sdK; push_cast; rfl
    have q3 : ∀ p : Pt, (Yl σ p : Rat) = 134217728 * (p.2 : Rat) - (σ : Rat) * (p.1 : Rat) := fun p => by unfold Yl; push_cast; rfl
    rw [h0] at q2
    have z0 : ((0 : Int) : Rat) = 0 := rfl
    have hd0 : (emb σ d).2 - (emb σ c).2 ≠ 0 := fun e => hne (cast_eq.1 (show (Yl σ c : Rat) = (Yl σ d : Rat) by unfold emb at e; grind))
    have : (Jor.xat (emb σ c) (emb σ d) t - x) * ((emb σ d).2 - (emb σ c).2) = 0 := by
      rw [e]
      unfold emb
      dsimp only
      rw [q3] at ht
      rw [q3, q3]
      grind
    rcases Rat.mul_eq_zero.1 this with h | h
    · grind
    · exact (hd0 h).elim
section
variable {l : List Pt} (hS : Simple l)
include hS
theorem S_may (i : Nat) : May (pt l (i % l.length)) := hS.1.2 _ (getD_mem (Nat.mod_lt _ (by have := hS.1.1; omega)))
theorem S_ne (i : Nat) : pt l (i % l.length) ≠ pt l ((i + 1) % l.length) := fun e => (hS.ring (σ := 1) (.inl rfl)).lev1 i (by unfold pQ; rw [e])
theorem mid_off {i k : Nat} (h0 : 0 < k) (hk : k < l.length) : ¬ MidOn (mid (pt l (i % l.length)) (pt l ((i + 1) % l.length))) (pt l ((i + k) % l.length)) (pt l ((i + k + 1) % l.length)) := fun hm => by
  have hR := hS.ring (σ := 1) (.inl rfl)
  have a1 := S_may hS i
  have a2 := S_may hS (i + 1)
  have hne := S_ne hS i
  have hY : Yl 1 (pt l (i % l.length)) ≠ Yl 1 (pt l ((i + 1) % l.length)) := fun e => hne (Yl_inj (.inl rfl) a1 a2 e)
  have hm2 : ((Yl 1 (mid (pt l (i % l.length)) (pt l ((i + 1) % l.length))) : Int) : Rat) = (Yl 1 (pt l (i % l.length)) : Rat) + (Yl 1 (pt l ((i + 1) % l.length)) : Rat) := by
    have : Yl 1 (mid (pt l (i % l.length)) (pt l ((i + 1) % l.length))) = Yl 1 (pt l (i % l.length)) + Yl 1 (pt l ((i + 1) % l.length)) := by unfold Yl mid; grind
    rw [this]; push_cast; rfl
  have hm1 : (((mid (pt l (i % l.length)) (pt l ((i + 1) % l.length))).1 : Int) : Rat) = ((pt l (i % l.length)).1 : Rat) + ((pt l ((i + 1) % l.length)).1 : Rat) := by unfold mid; push_cast; rfl
  have h1 := mid_spn (σ := 1) (.inl rfl) (S_may hS (i + k)) (S_may hS (i + k + 1)) (S_ne hS (i + k)) hm (x := (((pt l (i % l.length)).1 : Rat) + ((pt l ((i + 1) % l.length)).1 : Rat)) / 2) (t := ((Yl 1 (pt l (i % l.length)) : Rat) + (Yl 1 (pt l ((i + 1) % l.length)) : Rat)) / 2) (by rw [hm1]; grind) (by rw [hm2]; grind)
  have hself : MidOn (mid (pt l (i % l.length)) (pt l ((i + 1) % l.length))) (pt l (i % l.length)) (pt l ((i + 1) % l.length)) := by
    unfold MidOn sdK mid
    refine ⟨by grind, by omega, fun _ => by omega⟩
  have h2 := mid_spn (σ := 1) (.inl rfl) a1 a2 hne hself (x := (((pt l (i % l.length)).1 : Rat) + ((pt l ((i + 1) % l.length)).1 : Rat)) / 2) (t := ((Yl 1 (pt l (i % l.length)) : Rat) + (Yl 1 (pt l ((i + 1) % l.length)) : Rat)) / 2) (by rw [hm1]; grind) (by rw [hm2]; grind)
  have hy : ((Yl 1 (pt l (i % l.length)) : Int) : Rat) ≠ ((Yl 1 (pt l ((i + 1) % l.length)) : Int) : Rat) := fun e => hY (cast_eq.1 e)
  have := hR.nc i k _ h0 hk h2.1 h1.1 (h1.2.trans h2.2.symm)
  unfold pQ emb at this
  dsimp only at this
  grind
theorem bZ_edge (i : Nat) (w : Pt) : ∃ σ : Int, (σ = if w.1 < 0 then -1 else 1) ∧ ∃ v : Int, 2 * v = (if 0 < shoe l then 1 else -1) - 1 + 2 * (if Yl σ (pt l (i % l.length)) < Yl σ (pt l ((i + 1) % l.length)) then 0 else 1) ∧ shoe l ≠ 0 ∧
    sumZ ((edg l).map (bsd (mid (pt l (i % l.length)) (pt l ((i + 1) % l.length))) w)) = v + bsd (mid (pt l (i % l.length)) (pt l ((i + 1) % l.length))) w (pt l (i % l.length), pt l ((i + 1) % l.length)) := by
  refine ⟨_, rfl, ?_⟩
  have hσ : (if w.1 < 0 then -1 else 1 : Int) = 1 ∨ (if w.1 < 0 then -1 else 1 : Int) = -1 := by split <;> simp
  have hLo : ∀ (m : Pt) (y : Int), Lo (if w.1 < 0 then -1 else 1) 2 m y ↔ ¬ Ovr m w y := fun m y => by
    unfold Ovr
    by_cases h : w.1 < 0
    · rw [if_pos h, Lo_neg]; omega
    · rw [if_neg h, Lo_one]; omega
  generalize (if w.1 < 0 then -1 else 1 : Int) = σ at hσ hLo
  have hR := hS.ring hσ
  have h3 := hS.1.1
  have a1 := S_may hS i
  have a2 := S_may hS (i + 1)
  have hne := S_ne hS i
  obtain ⟨ω, hω, hA, _, hside⟩ := Jor.jordan hR
  rw [area_cast σ (by omega)] at hA
  have hA : 0 < ω * (134217728 * shoe l) := by
    have e : ((ω * (134217728 * shoe l) : Int) : Rat) = (ω : Rat) * ((134217728 * shoe l : Int) : Rat) := Rat.intCast_mul _ _
    have : ((0 : Int) : Rat) < ((ω * (134217728 * shoe l) : Int) : Rat) := by rw [e]; exact hA
    exact cast_lt.1 this
  generalize em : mid (pt l (i % l.length)) (pt l ((i + 1) % l.length)) = m
  have hY : Yl σ (pt l (i % l.length)) ≠ Yl σ (pt l ((i + 1) % l.length)) := fun e => hne (Yl_inj hσ a1 a2 e)
  have hm2 : ((Yl σ m : Int) : Rat) = (Yl σ (pt l (i % l.length)) : Rat) + (Yl σ (pt l ((i + 1) % l.length)) : Rat) := by
    have : Yl σ m = Yl σ (pt l (i % l.length)) + Yl σ (pt l ((i + 1) % l.length)) := by rw [← em]; unfold Yl mid; grind
    rw [this]; push_cast; rfl
  have hm1 : ((m.1 : Int) : Rat) = ((pt l (i % l.length)).1 : Rat) + ((pt l ((i + 1) % l.length)).1 : Rat) := by rw [← em]; unfold mid; push_cast; rfl
  have hself : MidOn m (pt l (i % l.length)) (pt l ((i + 1) % l.length)) := by
    rw [← em]
    unfold MidOn sdK mid
    refine ⟨by grind, by omega, fun _ => by omega⟩
  have hmK : MayK 2 m := by
    rw [← em]
    unfold May at a1 a2
    unfold MayK mid
    omega
  obtain ⟨x, hx⟩ : ∃ x : Rat, 2 * x = (m.1 : Rat) := ⟨(m.1 : Rat) / 2, by grind⟩
  obtain ⟨t, ht⟩ : ∃ t : Rat, 2 * t = (Yl σ m : Rat) := ⟨(Yl σ m : Rat) / 2, by grind⟩
  have h2 := mid_spn hσ a1 a2 hne hself hx ht
  have hy : ((Yl σ (pt l (i % l.length)) : Int) : Rat) ≠ ((Yl σ (pt l ((i + 1) % l.length)) : Int) : Rat) := fun e => hY (cast_eq.1 e)
  have ho : Jor.ospn (pQ σ l i) (pQ σ l (i + 1)) t := by
    unfold Jor.ospn pQ emb
    dsimp only
    grind
  have hs := hside i t ho
  rw [show Jor.xat (pQ σ l i) (pQ σ l (i + 1)) t = x from h2.2] at hs
  refine ⟨Jor.W l.length (pQ σ l) x t, ?_, fun e => by rw [e, Int.mul_zero, Int.mul_zero] at hA; exact absurd hA (by decide), ?_⟩
  · rw [hs]
    have hd : Jor.dn (pQ σ l i) (pQ σ l (i + 1)) = if Yl σ (pt l (i % l.length)) < Yl σ (pt l ((i + 1) % l.length)) then 0 else 1 := by
      have q1 : (pQ σ l i).2 = ((Yl σ (pt l (i % l.length)) : Int) : Rat) := rfl
      have q2 : (pQ σ l (i + 1)).2 = ((Yl σ (pt l ((i + 1) % l.length)) : Int) : Rat) := rfl
      unfold Jor.dn
      rw [q1, q2]
      by_cases h : Yl σ (pt l (i % l.length)) < Yl σ (pt l ((i + 1) % l.length))
      · rw [if_pos h, if_pos (cast_lt.2 h)]
      · rw [if_neg h, if_neg (fun hh => h (cast_lt.1 hh))]
    rw [hd]
    by_cases h : 0 < shoe l
    · rw [if_pos h]
      rcases hω with rfl | rfl
      · rfl
      · omega
    · rw [if_neg h]
      rcases hω with rfl | rfl
      · omega
      · rfl
  · rw [sum_edg, Jor.W_shift hR.per x t i]
    have hper : ∀ j, bsd m w (pt l ((j + l.length) % l.length), pt l ((j + l.length + 1) % l.length)) = bsd m w (pt l (j % l.length), pt l ((j + 1) % l.length)) := fun j => by
      rw [Nat.add_mod_right, show j + l.length + 1 = j + 1 + l.length by omega, Nat.add_mod_right]
    rw [← Jor.sumN_shift (f := fun j => bsd m w (pt l (j % l.length), pt l ((j + 1) % l.length))) hper i]
    have := Jor.sumN_sub (fun j => bsd m w (pt l ((i + j) % l.length), pt l ((i + j + 1) % l.length))) (fun j => Jor.rt x (pQ σ l (i + j)) (pQ σ l (i + j + 1)) t) l.length
    rw [Jor.sumN_one (k := 0) (by omega)] at this
    · have e0 : Jor.rt x (pQ σ l i) (pQ σ l (i + 1)) t = 0 := by
        rw [← show Jor.xat (pQ σ l i) (pQ σ l (i + 1)) t = x from h2.2]
        exact Jor.rt_self _ _ _
      simp only [Nat.add_zero] at this
      rw [e0] at this
      omega
    · intro j hj hj0
      have b1 := S_may hS (i + j)
      have b2 := S_may hS (i + j + 1)
      have hoff := mid_off hS (i := i) (k := j) (by omega) hj
      rw [em] at hoff
      unfold pQ
      rw [core (k := 2) hσ (.inr rfl) b1 b2 hmK (by exact_mod_cast hx) (by exact_mod_cast ht)]
      generalize pt l ((i + j) % l.length) = c at *
      generalize pt l ((i + j + 1) % l.length) = d at *
      have es : sdZ m (c, d) = sdK 2 m c d := rfl
      unfold bsd side cntK
      simp only [hLo]
      rw [es]
      by_cases hz : sdK 2 m c d = 0
      · have hno : ¬ (¬ Ovr m w c.2 ∧ Ovr m w d.2) ∧ ¬ (Ovr m w c.2 ∧ ¬ Ovr m w d.2) := by
          unfold MidOn at hoff
          unfold Ovr
          omega
        rw [hz]
        grind
      · rw [if_neg hz]
        grind
end
end Go.Proofs.Ythkmkmkcnljmaaa.Pl
