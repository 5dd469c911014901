import Derived.Test.YthkmkmkcnljmaaaP03s
namespace Go.Proofs.Ythkmkmkcnljmaaa.Pl
set_option maxRecDepth 4000
theorem bsd_fwd {a b : Pt} (hab : a ≠ b) (ha : May a) (hb : May b) {σ : Int} (hσ : σ = if (way a b).1 < 0 then -1 else 1) : bsd (mid a b) (way a b) (a, b) = if Yl σ a < Yl σ b then 1 else 0 := by
  have e0 : sdZ (mid a b) (a, b) = 0 := by unfold sdZ mid; grind
  have e1 : 0 < (b.1 - a.1) * (way a b).1 + (b.2 - a.2) * (way a b).2 := long_pos (ne_way hab)
  unfold bsd side
  rw [if_pos e0]
  dsimp only
  generalize (b.1 - a.1) * (way a b).1 + (b.2 - a.2) * (way a b).2 = z at e1
  have hne : a.1 ≠ b.1 ∨ a.2 ≠ b.2 := by
    by_cases h : a.1 = b.1
    · by_cases h2 : a.2 = b.2
      · exact (hab (pt_ext h h2)).elim
      · exact .inr h2
    · exact .inl h
  unfold Ovr way mid Yl May at *
  dsimp only at *
  subst hσ
  split <;> (try split) <;> (try split) <;> (try split) <;> omega
theorem bsd_bwd {a b : Pt} (hab : a ≠ b) (ha : May a) (hb : May b) {σ : Int} (hσ : σ = if (way b a).1 < 0 then -1 else 1) : bsd (mid a b) (way b a) (a, b) = if Yl σ a < Yl σ b then 0 else -1 := by
  have e0 : sdZ (mid a b) (a, b) = 0 := by unfold sdZ mid; grind
  have e1 : (b.1 - a.1) * (way b a).1 + (b.2 - a.2) * (way b a).2 < 0 := by
    have := long_pos (ne_way hab)
    unfold way
    grind
  unfold bsd side
  rw [if_pos e0]
  dsimp only
  generalize (b.1 - a.1) * (way b a).1 + (b.2 - a.2) * (way b a).2 = z at e1
  have hne : a.1 ≠ b.1 ∨ a.2 ≠ b.2 := by
    by_cases h : a.1 = b.1
    · by_cases h2 : a.2 = b.2
      · exact (hab (pt_ext h h2)).elim
      · exact .inr h2
    · exact .inl h
  unfold Ovr way mid Yl May at *
  dsimp only at *
  subst hσ
  split <;> (try split) <;> (try split) <;> (try split) <;> omega
theorem mid_comm (a b : Pt) : mid b a = mid a b := by unfold mid; rw [Int.add_comm, Int.add_comm b.2]
section
variable {l : List Pt} (hS : Simple l)
include hS
theorem no_has {i : Nat} (hi : i < l.length) {w : Pt} (hw : (b : Pt) → b = pt l ((i + 1) % l.length) → (b.1 - (pt l i).1) * w.2 = (b.2 - (pt l i).2) * w.1) : ¬ ∃ e ∈ edg l, Has (mid (pt l i) (pt l ((i + 1) % l.length))) w e := by
  rintro ⟨e, he, h1, h2, h3, h4⟩
  obtain ⟨j, hj, ej⟩ := mem_getD (d := (((0 : Int), (0 : Int)), ((0 : Int), (0 : Int)))) he
  rw [edg_len] at hj
  rw [edg_at hj] at ej
  have e1 : e = (pt l j, pt l ((j + 1) % l.length)) := ej.symm
  by_cases hij : j = i
  · subst hij
    rw [e1] at h1
    exact h1 (hw _ rfl)
  · have hk : ∃ k, 0 < k ∧ k < l.length ∧ (i + k) % l.length = j ∧ (i + k + 1) % l.length = (j + 1) % l.length := by
      rcases Nat.lt_or_ge i j with q | q
      · exact ⟨j - i, by omega, by omega, by rw [show i + (j - i) = j by omega, Nat.mod_eq_of_lt hj], by rw [show i + (j - i) + 1 = j + 1 by omega]⟩
      · exact ⟨j + l.length - i, by omega, by omega, by rw [show i + (j + l.length - i) = j + l.length by omega, Nat.add_mod_right, Nat.mod_eq_of_lt hj], by rw [show i + (j + l.length - i) + 1 = j + 1 + l.length by omega, Nat.add_mod_right]⟩
    obtain ⟨k, k0, kn, ek, ek1⟩ := hk
    have := mid_off hS (i := i) k0 kn
    rw [ek, ek1, Nat.mod_eq_of_lt hi] at this
    apply this
    rw [e1] at h2 h3 h4
    refine ⟨h2, ?_, ?_⟩
    · dsimp only at h4; omega
    · intro _; dsimp only at h3; omega
theorem sides {i : Nat} (hi : i < l.length) : shoe l ≠ 0 ∧ beside l (pt l i) (pt l ((i + 1) % l.length)) = (if 0 < shoe l then 1 else 0, true) ∧ beside l (pt l ((i + 1) % l.length)) (pt l i) = (if 0 < shoe l then 0 else -1, true) := by
  have a1 := S_may hS i
  have a2 := S_may hS (i + 1)
  have hne := S_ne hS i
  have f1 := bZ_edge hS i (way (pt l i) (pt l ((i + 1) % l.length)))
  have f2 := bZ_edge hS i (way (pt l ((i + 1) % l.length)) (pt l i))
  rw [Nat.mod_eq_of_lt hi] at a1 hne f1 f2
  obtain ⟨σ, hσ, v, hv, hz, hb⟩ := f1
  obtain ⟨τ, hτ, u, hu, _, hc⟩ := f2
  rw [bsd_fwd hne a1 a2 hσ] at hb
  rw [bsd_bwd hne a1 a2 hτ] at hc
  refine ⟨hz, ?_, ?_⟩
  · unfold beside
    have hN : ¬ HasR l (pt l i) (pt l ((i + 1) % l.length)) := by
      unfold HasR
      exact no_has hS hi fun b hb => by subst hb; unfold way; grind
    rw [if_pos ⟨hne, a1, a2, hS.1.2⟩, if_neg hN]
    congr 1
    show sumZ ((edg l).map (bsd (mid (pt l i) (pt l ((i + 1) % l.length))) (way (pt l i) (pt l ((i + 1) % l.length))))) = _
    rw [hb]
    split at hv <;> split at hv <;> simp_all <;> omega
  · unfold beside
    have hN : ¬ HasR l (pt l ((i + 1) % l.length)) (pt l i) := by
      unfold HasR
      rw [mid_comm]
      exact no_has hS hi fun b hb => by subst hb; unfold way; grind
    rw [if_pos ⟨fun e => hne e.symm, a2, a1, hS.1.2⟩, if_neg hN]
    congr 1
    show sumZ ((edg l).map (bsd (mid (pt l ((i + 1) % l.length)) (pt l i)) (way (pt l ((i + 1) % l.length)) (pt l i)))) = _
    rw [mid_comm, hc]
    split at hu <;> split at hu <;> simp_all <;> omega
theorem wind_once {p : Pt} (hp : May p) (hon : ¬ OnR l p) : wZ l p = 0 ∨ wZ l p = if 0 < shoe l then 1 else -1 := by
  have h3 := hS.1.1
  have hR := hS.ring (σ := 1) (.inl rfl)
  obtain ⟨ω, hω, hA, hoff, _⟩ := Jor.jordan hR
  rw [area_cast 1 (by omega)] at hA
  have hA : 0 < ω * (134217728 * shoe l) := by
    have e : ((ω * (134217728 * shoe l) : Int) : Rat) = (ω : Rat) * ((134217728 * shoe l : Int) : Rat) := Rat.intCast_mul _ _
    have : ((0 : Int) : Rat) < ((ω * (134217728 * shoe l) : Int) : Rat) := by rw [e]; exact hA
    exact cast_lt.1 this
  rw [wZ_W hS.1.2 (by omega) hp]
  have := hoff (p.1 : Rat) (Yl 1 p : Rat) (fun j e => by
    have e1 : Yl 1 (pt l (j % l.length)) = Yl 1 p := cast_eq.1 e
    have e2 := Yl_inj (.inl rfl) (S_may hS j) hp e1
    refine hon ⟨_, getD_mem (d := ((0, 0), (0, 0))) (i := j % l.length) (by rw [edg_len]; exact Nat.mod_lt _ (by omega)), ?_⟩
    rw [edg_at (Nat.mod_lt _ (by omega))]
    rw [← e2]
    exact On_left _ _)
  rcases this with h | h
  · exact .inl h
  · right
    rw [h]
    rcases hω with rfl | rfl
    · rw [if_pos (by omega)]
    · rw [if_neg (by omega)]
end
theorem law03_RingOnce_true (x0 : List (Int × Int)) (x1 : Int × Int) (k0 : ∀ y2 ∈ x0, I64 y2.1 ∧ I64 y2.2) (k1 : I64 x1.1 ∧ I64 x1.2) : law03_RingOnce x0 x1 = some true := by
  unfold law03_RingOnce
  have hn := take40 x0
  rw [Cut_eq, bind_some', Simple_eq (by omega), bind_some']
  generalize x0.take 40 = l at hn
  by_cases hS : Simple l
  · rw [decide_eq_true hS, Bool.not_true, if_neg (by decide), Area_eq (by omega), bind_some']
    have h3 := hS.1.1
    have ha : area l = shoe l := by unfold area; rw [if_pos hS.1, aZ_shoe]
    have hz := (sides hS (i := 0) (by omega)).1
    have key : ∀ w : Int, w = (if 0 < shoe l then 1 else -1) → law03_RingOnce_k1 x1 l w = some true := fun w hw => by
      unfold law03_RingOnce_k1
      rw [Winding_eq _ (by omega), bind_some', Area_eq (by omega), bind_some', bind_some', ha, decide_eq_false hz, Bool.false_or]
      have hc : ((winding l x1).2 && (!decide ((winding l x1).1 = 0)) && (!decide ((winding l x1).1 = w))) = false := by
        unfold winding
        by_cases hm : May x1 ∧ Ok l
        · rw [if_pos hm]
          by_cases ho : OnR l x1
          · rw [if_pos ho]; rfl
          · rw [if_neg ho]
            dsimp only
            have := wind_once hS hm.1 ho
            rw [← hw] at this
            rcases this with h | h
            · rw [decide_eq_true h]; rfl
            · rw [decide_eq_true h, Bool.not_true, Bool.and_false]
        · rw [if_neg hm]; rfl
      rw [hc, if_neg (by decide)]
      have := loopO_nat (body := fun s => law03_RingOnce_b2 l w s) (fun k => (k : Int)) l.length true (fun k hk => by
        show law03_RingOnce_b2 _ _ _ = _
        unfold law03_RingOnce_b2
        have hk1 : (k + 1) % l.length < l.length := Nat.mod_lt _ (by omega)
        have hs := sides hS hk
        have e1 : l.getD k (0, 0) = pt l k := rfl
        have e2 : l.getD ((k + 1) % l.length) (0, 0) = pt l ((k + 1) % l.length) := rfl
        rw [dlt hk, if_pos rfl, ix_getD (0, 0) hk, bind_some', ad_one (by omega), rm_nat (by omega), bind_some', ix_getD (0, 0) hk1, bind_some', e1, e2, Beside_eq _ _ (by omega), bind_some', Beside_eq _ _ (by omega), bind_some', hs.2.1, hs.2.2, hw]
        by_cases h : 0 < shoe l
        · simp only [if_pos h]; rfl
        · simp only [if_neg h]; rfl) (by
        show law03_RingOnce_b2 _ _ _ = _
        unfold law03_RingOnce_b2
        rw [dnlt (Nat.lt_irrefl _), if_neg (by decide), known03]; rfl)
      exact this
    rw [ha]
    by_cases h : shoe l < 0
    · rw [decide_eq_true h, if_pos rfl]
      exact key _ (by rw [if_neg (by omega)])
    · rw [decide_eq_false h, if_neg (by decide)]
      exact key _ (by rw [if_pos (by omega)])
  · rw [decide_eq_false hS, Bool.not_false, if_pos rfl, known03]; rfl
end Go.Proofs.Ythkmkmkcnljmaaa.Pl
