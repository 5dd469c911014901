import Derived.Test.YtopnbammdeimcaaP21mf
namespace Go.Proofs.Ytopnbammdeimcaa.Pl
set_option maxRecDepth 4000
set_option linter.unusedSectionVars false
def ins (c : Int) (y : Bool) (e : Pt × Pt) : List Pt := if Ctp e.1 e.2 c y then [ctp e.1 e.2 c y] else []
def subE (c : Int) (y : Bool) (e : Pt × Pt) : List Pt := e.1 :: ins c y e
def subP (c : Int) (y : Bool) : Pt → List Pt → Pt → List Pt
  | a, [], z => ins c y (a, z)
  | a, b :: r, z => ins c y (a, b) ++ b :: subP c y b r z
def sub (c : Int) (y : Bool) : List Pt → List Pt
  | [] => []
  | a :: r => a :: subP c y a r a
theorem sub_zip (c : Int) (y : Bool) : ∀ (r : List Pt) (a z : Pt), ((a :: r).zip (r ++ [z])).flatMap (subE c y) = a :: subP c y a r z
  | [], a, z => by simp [subE, subP]
  | b :: r, a, z => by
    rw [List.cons_append, List.zip_cons_cons, List.flatMap_cons, sub_zip c y r b z]
    simp [subE, subP]
theorem sub_edg (c : Int) (y : Bool) (l : List Pt) : (edg l).flatMap (subE c y) = sub c y l := by
  cases l with
  | nil => rfl
  | cons a r => rw [edg_cons, sub_zip]; rfl
theorem ctp_on (a b : Pt) (c : Int) (y : Bool) : (fl y (ctp a b c y)).1 = c := by
  unfold ctp
  rw [fl_fl]
theorem Ct_far {c : Int} {up y : Bool} {a b : Pt} (h : Ct (fl y a).1 (fl y b).1 c) : (far c up y a = 1 ∧ far c up y b = -1) ∨ (far c up y a = -1 ∧ far c up y b = 1) := by
  unfold Ct at h
  have h1 : (fl y a).1 ≠ c := by omega
  have h2 : (fl y b).1 ≠ c := by omega
  unfold far
  rw [if_neg h1, if_neg h2]
  rcases h with ⟨p, q⟩ | ⟨p, q⟩
  · rw [decide_eq_false (show ¬ c < (fl y a).1 by omega), decide_eq_true q]
    cases up <;> simp
  · rw [decide_eq_true q, decide_eq_false (show ¬ c < (fl y b).1 by omega)]
    cases up <;> simp
theorem hf_sub (c : Int) (up y : Bool) (l : List Pt) : hf c up y l = (sub c y l).filter (fun p => decide (Up c up y p)) := by
  rw [← sub_edg, List.filter_flatMap]
  unfold hf
  congr 1
  funext e
  unfold hfe
  have e1 : List.filter (fun p => decide (Up c up y p)) (subE c y e) = (if 0 ≤ far c up y e.1 then [e.1] else []) ++ List.filter (fun p => decide (Up c up y p)) (ins c y e) := by
    unfold subE
    by_cases h : 0 ≤ far c up y e.1
    · rw [if_pos h, List.filter_cons_of_pos (by simpa using (show Up c up y e.1 from h))]; rfl
    · rw [if_neg h, List.filter_cons_of_neg (by simpa using (show ¬ Up c up y e.1 from h))]; rfl
  show _ = List.filter _ (subE c y e)
  rw [e1]
  congr 1
  unfold ins
  by_cases hc : Ctp e.1 e.2 c y
  · have hf := Ct_far (up := up) hc.2
    have hm : Up c up y (ctp e.1 e.2 c y) := by unfold Up; rw [far_on (ctp_on _ _ _ _)]; omega
    rw [if_pos hc, if_neg (by rcases hf with ⟨p, q⟩ | ⟨p, q⟩ <;> rw [p, q] <;> decide), List.filter_cons_of_pos (by simpa using hm)]; rfl
  · rw [if_neg hc]
    split <;> rfl
section
variable {c : Int} {y : Bool} {f : Pt × Pt → Int}
theorem sub_psum : ∀ (r : List Pt) (a z : Pt), (∀ e ∈ (a :: r).zip (r ++ [z]), Ctp e.1 e.2 c y → f e = f (e.1, ctp e.1 e.2 c y) + f (ctp e.1 e.2 c y, e.2)) → psum f a (subP c y a r z ++ [z]) = psum f a (r ++ [z])
  | [], a, z, h => by
    unfold subP ins
    by_cases hc : Ctp a z c y
    · have := h (a, z) (by simp) hc
      dsimp only at this
      rw [if_pos hc]
      simp only [List.cons_append, List.nil_append, psum]
      omega
    · rw [if_neg hc]
  | b :: r, a, z, h => by
    have ih := sub_psum r b z (fun e he => h e (by rw [List.cons_append, List.zip_cons_cons]; exact List.mem_cons_of_mem _ he))
    unfold subP ins
    by_cases hc : Ctp a b c y
    · have := h (a, b) (by rw [List.cons_append, List.zip_cons_cons]; exact List.mem_cons_self) hc
      dsimp only at this
      rw [if_pos hc]
      simp only [List.cons_append, List.nil_append, List.append_assoc, psum]
      rw [ih]; omega
    · rw [if_neg hc]
      simp only [List.cons_append, List.nil_append, psum]
      rw [ih]
theorem sub_csum {l : List Pt} (h : ∀ e ∈ edg l, Ctp e.1 e.2 c y → f e = f (e.1, ctp e.1 e.2 c y) + f (ctp e.1 e.2 c y, e.2)) : csum f (sub c y l) = csum f l := by
  cases l with
  | nil => rfl
  | cons a r =>
    unfold sub csum
    exact sub_psum r a a h
variable {R R' : Pt → Pt → Prop}
theorem sub_vch (h1 : ∀ a b, R a b → ¬ Ctp a b c y → R' a b) (h2 : ∀ a b, R a b → Ctp a b c y → R' a (ctp a b c y) ∧ R' (ctp a b c y) b) : ∀ (r : List Pt) (a z : Pt), vch R a (r ++ [z]) → vch R' a (subP c y a r z ++ [z])
  | [], a, z, h => by
    simp only [List.nil_append, vch] at h
    unfold subP ins
    by_cases hc : Ctp a z c y
    · have := h2 a z h.1 hc
      rw [if_pos hc]
      simp only [List.cons_append, List.nil_append, vch]
      exact ⟨this.1, this.2, trivial⟩
    · rw [if_neg hc]
      simp only [List.nil_append, vch]
      exact ⟨h1 a z h.1 hc, trivial⟩
  | b :: r, a, z, h => by
    simp only [List.cons_append, vch] at h
    have ih := sub_vch h1 h2 r b z h.2
    unfold subP ins
    by_cases hc : Ctp a b c y
    · have := h2 a b h.1 hc
      rw [if_pos hc]
      simp only [List.cons_append, List.nil_append, List.append_assoc, vch]
      exact ⟨this.1, this.2, ih⟩
    · rw [if_neg hc]
      simp only [List.cons_append, List.nil_append, vch]
      exact ⟨h1 a b h.1 hc, ih⟩
theorem sub_vcy {l : List Pt} (h1 : ∀ a b, R a b → ¬ Ctp a b c y → R' a b) (h2 : ∀ a b, R a b → Ctp a b c y → R' a (ctp a b c y) ∧ R' (ctp a b c y) b) (h : vcy R l) : vcy R' (sub c y l) := by
  cases l with
  | nil => exact trivial
  | cons a r => exact sub_vch h1 h2 r a a h
end
section
variable {P Q : Pt → Prop} [DecidablePred P] {R : Pt → Pt → Prop} (hPQ : ∀ a, ¬ P a → Q a) (hb : ∀ a b, P a → Q a → P b → Q b → R a b)
include hPQ hb
theorem flt_vch (z : Pt) (hz : P z) : ∀ r : List Pt,
    (∀ a, P a → vch (fun x y => ((P x ∧ P y) ∨ (Q x ∧ Q y)) ∧ R x y) a (r ++ [z]) → vch R a (r.filter (fun x => decide (P x)) ++ [z])) ∧
    (∀ a x, P a → Q a → ¬ P x → vch (fun x y => ((P x ∧ P y) ∨ (Q x ∧ Q y)) ∧ R x y) x (r ++ [z]) → vch R a (r.filter (fun x => decide (P x)) ++ [z]))
  | [] => by
    refine ⟨fun a _ hv => ?_, fun a x hp ha hx hv => ?_⟩
    · simp only [List.filter_nil, List.nil_append, vch] at hv ⊢
      exact ⟨hv.1.2, trivial⟩
    · simp only [List.filter_nil, List.nil_append, vch] at hv ⊢
      rcases hv.1.1 with h | h
      · exact absurd h.1 hx
      · exact ⟨hb a z hp ha hz h.2, trivial⟩
  | y :: r => by
    have ih := flt_vch z hz r
    refine ⟨fun a ha hv => ?_, fun a x hp ha hx hv => ?_⟩
    · simp only [List.cons_append, vch] at hv
      by_cases hy : P y
      · rw [List.filter_cons_of_pos (by simpa using hy)]
        exact ⟨hv.1.2, ih.1 y hy hv.2⟩
      · rw [List.filter_cons_of_neg (by simpa using hy)]
        rcases hv.1.1 with h | h
        · exact absurd h.2 hy
        · exact ih.2 a y ha h.1 hy hv.2
    · simp only [List.cons_append, vch] at hv
      rcases hv.1.1 with h | h
      · exact absurd h.1 hx
      · by_cases hy : P y
        · rw [List.filter_cons_of_pos (by simpa using hy)]
          exact ⟨hb a y hp ha hy h.2, ih.1 y hy hv.2⟩
        · rw [List.filter_cons_of_neg (by simpa using hy)]
          exact ih.2 a y hp ha hy hv.2
theorem flt_vcy {l : List Pt} (hv : vcy (fun x y => ((P x ∧ P y) ∨ (Q x ∧ Q y)) ∧ R x y) l) : vcy R (l.filter (fun x => decide (P x))) := by
  by_cases h : ∃ a ∈ l, P a
  · obtain ⟨a, ha, hp⟩ := h
    obtain ⟨s, t, rfl⟩ := List.append_of_mem ha
    rw [vcy_rot] at hv
    rw [List.filter_append, vcy_rot, ← List.filter_append]
    simp only [List.cons_append, vcy] at hv ⊢
    rw [List.filter_cons_of_pos (by simpa using hp)]
    exact (flt_vch hPQ hb a hp (t ++ s)).1 a hp hv
  · rw [List.filter_eq_nil_iff.2 (fun x hx => by simpa using fun hp => h ⟨x, hx, hp⟩)]
    exact trivial
end
def Dn (c : Int) (up y : Bool) (p : Pt) : Prop := far c up y p ≤ 0
theorem one_side {c : Int} {up y : Bool} {a b : Pt} (h : ¬ Ct (fl y a).1 (fl y b).1 c) : (Up c up y a ∧ Up c up y b) ∨ (Dn c up y a ∧ Dn c up y b) := by
  have h1 := far_uncut h
  have hb1 := far_bd c up y a
  have hb2 := far_bd c up y b
  have h2 : 0 ≤ far c up y a * far c up y b := by
    cases up
    · rw [far_neg, far_neg c y b, Int.neg_mul_neg]; exact h1
    · exact h1
  unfold Up Dn
  generalize far c up y a = u at *
  generalize far c up y b = v at *
  have hu : u = -1 ∨ u = 0 ∨ u = 1 := by omega
  rcases hu with rfl | rfl | rfl
  · right; omega
  · omega
  · left; omega
theorem sided {c : Int} {up y : Bool} {R : Pt → Pt → Prop} {l : List Pt} (hK : Ok l) (hsub : ∀ a b, R a b → Ctp a b c y → R a (ctp a b c y) ∧ R (ctp a b c y) b) (h : ∀ e ∈ edg l, R e.1 e.2) : vcy (fun x z => ((Up c up y x ∧ Up c up y z) ∨ (Dn c up y x ∧ Dn c up y z)) ∧ R x z) (sub c y l) := by
  have hv : vcy (fun a b => (May a ∧ May b) ∧ R a b) l := (vcy_edg _ l).1 fun e he => ⟨Ok_edg hK he, h e he⟩
  refine sub_vcy (fun a b hab hc => ⟨one_side fun h => hc ⟨hab.1, h⟩, hab.2⟩) (fun a b hab hc => ?_) hv
  have hr := hsub a b hab.2 hc
  have hm : far c up y (ctp a b c y) = 0 := far_on (ctp_on _ _ _ _)
  refine ⟨⟨?_, hr.1⟩, ⟨?_, hr.2⟩⟩
  · unfold Up Dn; rw [hm]; rcases Ct_far (up := up) hc.2 with ⟨p, q⟩ | ⟨p, q⟩ <;> omega
  · unfold Up Dn; rw [hm]; rcases Ct_far (up := up) hc.2 with ⟨p, q⟩ | ⟨p, q⟩ <;> omega
theorem not_up {c : Int} {up y : Bool} (a : Pt) (h : ¬ Up c up y a) : Dn c up y a := by unfold Up at h; unfold Dn; omega
theorem both_on {c : Int} {up y : Bool} {a : Pt} (h1 : Up c up y a) (h2 : Dn c up y a) : (fl y a).1 = c := far_zero (c := c) (up := up) (y := y) (by unfold Up at h1; unfold Dn at h2; omega)
theorem hf_R {c : Int} {up y : Bool} {R : Pt → Pt → Prop} {l : List Pt} (hK : Ok l) (hsub : ∀ a b, R a b → Ctp a b c y → R a (ctp a b c y) ∧ R (ctp a b c y) b) (hbd : ∀ a b, (fl y a).1 = c → (fl y b).1 = c → R a b) (h : ∀ e ∈ edg l, R e.1 e.2) : ∀ e ∈ edg (hf c up y l), R e.1 e.2 := by
  rw [vcy_edg, hf_sub]
  exact flt_vcy (Q := Dn c up y) not_up (fun a b h1 h2 h3 h4 => hbd a b (both_on h1 h2) (both_on h3 h4)) (sided hK hsub h)
theorem hf_csum {c : Int} {up y : Bool} {f : Pt × Pt → Int} {g : Pt → Int} {l : List Pt} (hK : Ok l) (hadd : ∀ e ∈ edg l, Ctp e.1 e.2 c y → f e = f (e.1, ctp e.1 e.2 c y) + f (ctp e.1 e.2 c y, e.2)) (hT : ∀ a b, Dn c up y a → Dn c up y b → f (a, b) = g b - g a) : csum f (hf c up y l) = csum f l := by
  rw [hf_sub, ← sub_csum hadd]
  refine flt_csum (Q := Dn c up y) not_up hT ?_
  rw [vcy_edg (fun x z => (Up c up y x ∧ Up c up y z) ∨ (Dn c up y x ∧ Dn c up y z))]
  have := sided (c := c) (up := up) (y := y) (R := fun _ _ => True) hK (fun _ _ _ _ => ⟨trivial, trivial⟩) (fun _ _ => trivial)
  refine (vcy_edg _ _).1 fun e he => ?_
  exact ((vcy_edg _ _).2 this e he).1
theorem ddr_vch {R : Pt → Pt → Prop} (z : Pt) : ∀ (r : List Pt) (a : Pt), vch R a (r ++ [z]) → vch R a (ddr a r ++ [z])
  | [], a, h => h
  | x :: r, a, h => by
    unfold ddr
    simp only [List.cons_append, vch] at h
    by_cases hx : x = a
    · subst hx
      rw [if_pos rfl]
      exact ddr_vch z r x h.2
    · rw [if_neg hx]
      exact ⟨h.1, ddr_vch z r x h.2⟩
theorem trim_vcy {R : Pt → Pt → Prop} : ∀ (n : Nat) (l : List Pt), vcy R l → vcy R (trimN n l)
  | 0, _, hv => hv
  | n + 1, l, hv => by
    unfold trimN
    by_cases h : 1 < l.length ∧ l.getD (l.length - 1) (0, 0) = l.getD 0 (0, 0)
    · rw [if_pos h]
      apply trim_vcy n
      have hs := snoc_take (l := l) (k := l.length - 1) (0, 0) (by omega)
      rw [show l.length - 1 + 1 = l.length by omega, List.take_length, h.2] at hs
      generalize l.take (l.length - 1) = m at hs
      have hm : m ≠ [] := by
        rintro rfl
        have := congrArg List.length hs
        simp at this
        omega
      cases m with
      | nil => exact absurd rfl hm
      | cons a r =>
        have ha : l.getD 0 (0, 0) = a := by rw [hs]; rfl
        rw [ha] at hs
        rw [hs] at hv
        simp only [List.cons_append, vcy, List.append_assoc] at hv ⊢
        exact ((vch_app R r a a ([] ++ [a])).1 hv).1
    · rw [if_neg h]; exact hv
theorem thin_R {R : Pt → Pt → Prop} {l : List Pt} (h : ∀ e ∈ edg l, R e.1 e.2) : ∀ e ∈ edg (thin l), R e.1 e.2 := by
  rw [vcy_edg] at h ⊢
  unfold thin
  apply trim_vcy
  cases l with
  | nil => exact trivial
  | cons a r => exact ddr_vch a r a h
set_option maxRecDepth 4000
theorem rnd_exact {d k : Int} (hd : 0 < d) : rnd (k * d) d = k := by
  have := rnd_between (n := k * d) (d := d) (a := k) (b := k) hd (Int.le_refl _) (Int.le_refl _)
  omega
theorem ctp_vert {a b : Pt} {c : Int} (hc : Ctp a b c true) (h : a.1 = b.1) : ctp a b c true = (a.1, c) := by
  unfold ctp
  rw [if_pos hc]
  have h2 := hc.2
  unfold fl at h2 ⊢
  simp only [if_true] at h2 ⊢
  unfold aty atx
  unfold Ct at h2
  dsimp only at h2 ⊢
  congr 1
  by_cases hlt : b.2 < a.2
  · rw [if_pos hlt, show b.1 * (a.2 - b.2) + (a.1 - b.1) * (c - b.2) = b.1 * (a.2 - b.2) by rw [h]; grind, rnd_exact (by omega), h]
  · rw [if_neg hlt, show a.1 * (b.2 - a.2) + (b.1 - a.1) * (c - a.2) = a.1 * (b.2 - a.2) by rw [h]; grind, rnd_exact (by omega)]
def VX (b : Bx) (u v : Pt) : Prop := (¬ Ct u.1 v.1 b.1.1 ∧ ¬ Ct u.1 v.1 b.2.1) ∧ (Ct u.2 v.2 b.1.2 → u.1 = v.1) ∧ (Ct u.2 v.2 b.2.2 → u.1 = v.1)
def VY (b : Bx) (u v : Pt) : Prop := (Ct u.2 v.2 b.1.2 → u.1 = v.1) ∧ (Ct u.2 v.2 b.2.2 → u.1 = v.1)
theorem hfs_four (b : Bx) (l : List Pt) : hfs (sds b) l = hf b.2.2 false true (hf b.1.2 true true (hf b.2.1 false false (hf b.1.1 true false l))) := rfl
section
variable {l : List Pt} {b : Bx} (hW : Whl l b)
include hW
theorem whl_vx : ∀ e ∈ edg l, VX b e.1 e.2 := fun e he => by
  have hm := Ok_edg hW.2.1 he
  have h1 := hW.2.2.2 e he
  have c1 := h1 (b.1.1, true, false) (by simp [sds])
  have c2 := h1 (b.2.1, false, false) (by simp [sds])
  have c3 := h1 (b.1.2, true, true) (by simp [sds])
  have c4 := h1 (b.2.2, false, true) (by simp [sds])
  exact ⟨⟨fun h => c1 ⟨hm, h⟩, fun h => c2 ⟨hm, h⟩⟩, fun h => (c3 ⟨hm, h⟩).elim, fun h => (c4 ⟨hm, h⟩).elim⟩
theorem chain {T : Pt → Pt → Prop} (hT0 : ∀ e ∈ edg l, T e.1 e.2) (hTs : ∀ (u v : Pt) (c : Int), (c = b.1.2 ∨ c = b.2.2) → u.1 = v.1 → Ct u.2 v.2 c → T u v → T u (u.1, c) ∧ T (u.1, c) v) (hTb : ∀ s ∈ sds b, ∀ u v : Pt, (fl s.2.2 u).1 = s.1 → (fl s.2.2 v).1 = s.1 → T u v) :
    (∀ e ∈ edg (hf b.1.1 true false l), VX b e.1 e.2 ∧ T e.1 e.2) ∧ (∀ e ∈ edg (hf b.2.1 false false (hf b.1.1 true false l)), VY b e.1 e.2 ∧ T e.1 e.2) ∧ (∀ e ∈ edg (hf b.1.2 true true (hf b.2.1 false false (hf b.1.1 true false l))), VY b e.1 e.2 ∧ T e.1 e.2) ∧ ∀ e ∈ edg (hfs (sds b) l), T e.1 e.2 := by
  have k0 := hW.2.1
  have k1 : Ok (hf b.1.1 true false l) := hf_ok k0
  have k2 : Ok (hf b.2.1 false false (hf b.1.1 true false l)) := hf_ok k1
  have k3 : Ok (hf b.1.2 true true (hf b.2.1 false false (hf b.1.1 true false l))) := hf_ok k2
  have s1 := hTb (b.1.1, true, false) (by simp [sds])
  have s2 := hTb (b.2.1, false, false) (by simp [sds])
  have s3 := hTb (b.1.2, true, true) (by simp [sds])
  have s4 := hTb (b.2.2, false, true) (by simp [sds])
  have e0 : ∀ e ∈ edg l, VX b e.1 e.2 ∧ T e.1 e.2 := fun e he => ⟨whl_vx hW e he, hT0 e he⟩
  have bx : ∀ (c : Int) (u v : Pt), (fl false u).1 = c → (fl false v).1 = c → VX b u v := fun c u v h1 h2 => by
    have h1 : u.1 = c := h1
    have h2 : v.1 = c := h2
    unfold VX Ct
    omega
  have bY : ∀ (c : Int) (u v : Pt), (fl true u).1 = c → (fl true v).1 = c → VY b u v := fun c u v h1 h2 => by
    have h1 : u.2 = c := h1
    have h2 : v.2 = c := h2
    unfold VY Ct
    omega
  have e1 := hf_R (c := b.1.1) (up := true) (y := false) (R := fun u v => VX b u v ∧ T u v) k0 (fun u v h hc => (h.1.1.1 hc.2).elim) (fun u v h1 h2 => ⟨bx _ u v h1 h2, s1 u v h1 h2⟩) e0
  have e2 := hf_R (c := b.2.1) (up := false) (y := false) (R := fun u v => VX b u v ∧ T u v) k1 (fun u v h hc => (h.1.1.2 hc.2).elim) (fun u v h1 h2 => ⟨bx _ u v h1 h2, s2 u v h1 h2⟩) e1
  have e2' : ∀ e ∈ edg (hf b.2.1 false false (hf b.1.1 true false l)), VY b e.1 e.2 ∧ T e.1 e.2 := fun e he => ⟨(e2 e he).1.2, (e2 e he).2⟩
  have sub2 : ∀ c, (c = b.1.2 ∨ c = b.2.2) → ∀ u v, VY b u v ∧ T u v → Ctp u v c true → (VY b u (ctp u v c true) ∧ T u (ctp u v c true)) ∧ VY b (ctp u v c true) v ∧ T (ctp u v c true) v := fun c hc u v h hp => by
    have hv : u.1 = v.1 := by
      rcases hc with rfl | rfl
      · exact h.1.1 hp.2
      · exact h.1.2 hp.2
    have ht := hTs u v c hc hv hp.2 h.2
    rw [ctp_vert hp hv]
    exact ⟨⟨⟨fun _ => rfl, fun _ => rfl⟩, ht.1⟩, ⟨fun _ => hv, fun _ => hv⟩, ht.2⟩
  have e3 := hf_R (c := b.1.2) (up := true) (y := true) (R := fun u v => VY b u v ∧ T u v) k2 (fun u v h hc => sub2 _ (.inl rfl) u v h hc) (fun u v h1 h2 => ⟨bY _ u v h1 h2, s3 u v h1 h2⟩) e2'
  have e4 := hf_R (c := b.2.2) (up := false) (y := true) (R := fun u v => VY b u v ∧ T u v) k3 (fun u v h hc => sub2 _ (.inr rfl) u v h hc) (fun u v h1 h2 => ⟨bY _ u v h1 h2, s4 u v h1 h2⟩) e3
  exact ⟨e1, e2', e3, fun e he => (e4 e (by rw [← hfs_four]; exact he)).2⟩
theorem chain_csum {f : Pt × Pt → Int} (hadd : ∀ (u v : Pt) (c : Int), u.1 = v.1 → Ct u.2 v.2 c → f (u, v) = f (u, (u.1, c)) + f ((u.1, c), v)) (hT : ∀ s ∈ sds b, ∃ g : Pt → Int, ∀ u v, Dn s.1 s.2.1 s.2.2 u → Dn s.1 s.2.1 s.2.2 v → f (u, v) = g v - g u) : csum f (hfs (sds b) l) = csum f l := by
  have k0 := hW.2.1
  have k1 : Ok (hf b.1.1 true false l) := hf_ok k0
  have k2 : Ok (hf b.2.1 false false (hf b.1.1 true false l)) := hf_ok k1
  have k3 : Ok (hf b.1.2 true true (hf b.2.1 false false (hf b.1.1 true false l))) := hf_ok k2
  obtain ⟨g1, t1⟩ := hT (b.1.1, true, false) (by simp [sds])
  obtain ⟨g2, t2⟩ := hT (b.2.1, false, false) (by simp [sds])
  obtain ⟨g3, t3⟩ := hT (b.1.2, true, true) (by simp [sds])
  obtain ⟨g4, t4⟩ := hT (b.2.2, false, true) (by simp [sds])
  obtain ⟨e1, e2, e3, _⟩ := chain hW (T := fun _ _ => True) (fun _ _ => trivial) (fun _ _ _ _ _ _ _ => ⟨trivial, trivial⟩) (fun _ _ _ _ _ _ => trivial)
  have hy : ∀ (c : Int) (e : Pt × Pt), (c = b.1.2 ∨ c = b.2.2) → VY b e.1 e.2 → Ctp e.1 e.2 c true → f e = f (e.1, ctp e.1 e.2 c true) + f (ctp e.1 e.2 c true, e.2) := fun c e hc hv hp => by
    have h1 : e.1.1 = e.2.1 := by
      rcases hc with rfl | rfl
      · exact hv.1 hp.2
      · exact hv.2 hp.2
    rw [ctp_vert hp h1]
    exact hadd e.1 e.2 c h1 hp.2
  have a1 : csum f (hf b.1.1 true false l) = csum f l := hf_csum k0 (fun e he hp => ((whl_vx hW e he).1.1 (show Ct e.1.1 e.2.1 b.1.1 from hp.2)).elim) t1
  have a2 : csum f (hf b.2.1 false false (hf b.1.1 true false l)) = csum f (hf b.1.1 true false l) := hf_csum k1 (fun e he hp => ((e1 e he).1.1.2 (show Ct e.1.1 e.2.1 b.2.1 from hp.2)).elim) t2
  have a3 : csum f (hf b.1.2 true true (hf b.2.1 false false (hf b.1.1 true false l))) = csum f (hf b.2.1 false false (hf b.1.1 true false l)) := hf_csum k2 (fun e he hp => hy _ e (.inl rfl) (e2 e he).1 hp) t3
  have a4 : csum f (hf b.2.2 false true (hf b.1.2 true true (hf b.2.1 false false (hf b.1.1 true false l)))) = csum f (hf b.1.2 true true (hf b.2.1 false false (hf b.1.1 true false l))) := hf_csum k3 (fun e he hp => hy _ e (.inr rfl) (e3 e he).1 hp) t4
  rw [hfs_four, a4, a3, a2, a1]
end
def fq (x t : Rat) (e : Pt × Pt) : Int := Jor.rt x (emb 1 e.1) (emb 1 e.2) t
theorem W_csum (l : List Pt) (x t : Rat) : Jor.W l.length (pQ 1 l) x t = csum (fq x t) l := by
  rw [← csum_edg, sum_edg]; rfl
def eps (y : Bool) : Rat := if y then 1 else 0
def lam (c : Int) (y : Bool) : Rat := if y then 134217728 * (c : Rat) else (c : Rat)
theorem lam_at (y : Bool) (p : Pt) : (emb 1 p).1 + eps y * (emb 1 p).2 = lam (fl y p).1 y := by
  cases y
  · unfold eps lam fl emb; simp; grind
  · have : (Yl 1 p : Rat) = 134217728 * (p.2 : Rat) - (p.1 : Rat) := by unfold Yl; push_cast; grind
    unfold eps lam fl emb
    simp only [if_true]
    rw [this]; grind
theorem lam_le {c d : Int} {y : Bool} (h : c ≤ d) : lam c y ≤ lam d y := by
  have := cast_le.2 h
  unfold lam
  split <;> grind
theorem Dn_iff (c : Int) (up y : Bool) (p : Pt) : Dn c up y p ↔ if up then (fl y p).1 ≤ c else c ≤ (fl y p).1 := by
  unfold Dn far
  by_cases h : (fl y p).1 = c
  · rw [if_pos h]; cases up <;> simp <;> omega
  · rw [if_neg h]
    by_cases h2 : c < (fl y p).1
    · rw [decide_eq_true h2]; cases up <;> simp <;> omega
    · rw [decide_eq_false h2]; cases up <;> simp <;> omega
theorem Up_iff (c : Int) (up y : Bool) (p : Pt) : Up c up y p ↔ if up then c ≤ (fl y p).1 else (fl y p).1 ≤ c := far_iff c up y p
def Ins (c : Int) (up y : Bool) (x t : Rat) : Prop := if up then lam c y < x + eps y * t else x + eps y * t < lam c y
def Out (c : Int) (up y : Bool) (x t : Rat) : Prop := if up then x + eps y * t < lam c y else lam c y < x + eps y * t
theorem tel_side {c : Int} {up y : Bool} {x t : Rat} (h : Ins c up y x t) : ∃ g : Pt → Int, ∀ u v, Dn c up y u → Dn c up y v → fq x t (u, v) = g v - g u := by
  cases up
  · refine ⟨fun p => - Jor.bl (emb 1 p).2 t, fun u v hu hv => ?_⟩
    have hu := lam_le (y := y) ((Dn_iff c false y u).1 hu)
    have hv := lam_le (y := y) ((Dn_iff c false y v).1 hv)
    rw [← lam_at] at hu hv
    have := (Jor.rt_side (A := emb 1 u) (B := emb 1 v) (x := x) (t := t) (k := lam c y) (ε := eps y)).2 hu hv h
    unfold fq
    dsimp only
    rw [this]
    unfold Jor.sg
    omega
  · refine ⟨fun _ => 0, fun u v hu hv => ?_⟩
    have hu := lam_le (y := y) ((Dn_iff c true y u).1 hu)
    have hv := lam_le (y := y) ((Dn_iff c true y v).1 hv)
    rw [← lam_at] at hu hv
    exact (Jor.rt_side (A := emb 1 u) (B := emb 1 v) (x := x) (t := t) (k := lam c y) (ε := eps y)).1 hu hv h
theorem tel_out {c : Int} {up y : Bool} {x t : Rat} (h : Out c up y x t) : ∃ g : Pt → Int, ∀ u v, Up c up y u → Up c up y v → fq x t (u, v) = g v - g u := by
  cases up
  · refine ⟨fun _ => 0, fun u v hu hv => ?_⟩
    have hu := lam_le (y := y) ((Up_iff c false y u).1 hu)
    have hv := lam_le (y := y) ((Up_iff c false y v).1 hv)
    rw [← lam_at] at hu hv
    exact (Jor.rt_side (A := emb 1 u) (B := emb 1 v) (x := x) (t := t) (k := lam c y) (ε := eps y)).1 hu hv h
  · refine ⟨fun p => - Jor.bl (emb 1 p).2 t, fun u v hu hv => ?_⟩
    have hu := lam_le (y := y) ((Up_iff c true y u).1 hu)
    have hv := lam_le (y := y) ((Up_iff c true y v).1 hv)
    rw [← lam_at] at hu hv
    have := (Jor.rt_side (A := emb 1 u) (B := emb 1 v) (x := x) (t := t) (k := lam c y) (ε := eps y)).2 hu hv h
    unfold fq
    dsimp only
    rw [this]
    unfold Jor.sg
    omega
theorem fq_self (x t : Rat) (a : Pt) : fq x t (a, a) = 0 := by unfold fq Jor.rt Jor.sg; dsimp only; split <;> omega
theorem fq_vert (x t : Rat) (u v : Pt) (c : Int) (h : u.1 = v.1) : fq x t (u, v) = fq x t (u, (u.1, c)) + fq x t ((u.1, c), v) := by
  have hx : ∀ a b : Pt, a.1 = b.1 → Jor.xat (emb 1 a) (emb 1 b) t = (a.1 : Rat) := fun a b e => by
    unfold Jor.xat emb
    dsimp only
    rw [e]
    have : (((b.1 : Int) : Rat) - ((b.1 : Int) : Rat)) = 0 := by grind
    rw [this, Rat.div_def, Rat.zero_mul, Rat.mul_zero]; grind
  unfold fq Jor.rt
  dsimp only
  rw [hx u v h, hx u (u.1, c) rfl, hx (u.1, c) v h]
  unfold Jor.sg
  split <;> omega
theorem tel0 {f : Pt × Pt → Int} {g : Pt → Int} {Q : Pt → Prop} (hf : ∀ u v, Q u → Q v → f (u, v) = g v - g u) {l : List Pt} (h : ∀ p ∈ l, Q p) : csum f l = 0 := by
  have go : ∀ (r : List Pt) (a z : Pt), (∀ x ∈ r, Q x) → Q a → Q z → psum f a (r ++ [z]) = g z - g a := by
    intro r
    induction r with
    | nil => intro a z _ ha hz; simp only [List.nil_append, psum]; rw [hf a z ha hz]; omega
    | cons y r ih =>
      intro a z hr ha hz
      have := ih y z (fun x hx => hr x (by simp [hx])) (hr y (by simp)) hz
      simp only [List.cons_append, psum]
      rw [this, hf a y ha (hr y (by simp))]; omega
  cases l with
  | nil => rfl
  | cons a r =>
    have := go r a a (fun x hx => h x (by simp [hx])) (h a (by simp)) (h a (by simp))
    show psum f a (r ++ [a]) = 0
    omega
theorem clip_in {l : List Pt} {b : Bx} (hW : Whl l b) {x t : Rat} (h : ∀ s ∈ sds b, Ins s.1 s.2.1 s.2.2 x t) : csum (fq x t) (thin (hfs (sds b) l)) = csum (fq x t) l := by
  rw [thin_csum (fq_self x t), chain_csum hW (fun u v c hv _ => fq_vert x t u v c hv) (fun s hs => tel_side (h s hs))]
theorem clip_up {l : List Pt} {b : Bx} {s} (hs : s ∈ sds b) : ∀ p ∈ thin (hfs (sds b) l), Up s.1 s.2.1 s.2.2 p := fun p hp => hfs_in (sds b) l s hs p (thin_mem hp)
theorem clip_out {l : List Pt} {b : Bx} {x t : Rat} {s} (hs : s ∈ sds b) (h : Out s.1 s.2.1 s.2.2 x t) : csum (fq x t) (thin (hfs (sds b) l)) = 0 := by
  obtain ⟨g, hg⟩ := tel_out h
  exact tel0 (Q := Up s.1 s.2.1 s.2.2) hg (clip_up hs)
set_option maxRecDepth 4000
theorem pQ_per (σ : Int) (l : List Pt) : ∀ i, pQ σ l (i + l.length) = pQ σ l i := fun i => by unfold pQ; rw [Nat.add_mod_right]
theorem cross_lev (a b p : Pt) : 134217728 * crossZ a b p = (b.1 - a.1) * (Yl 1 p - Yl 1 a) - (Yl 1 b - Yl 1 a) * (p.1 - a.1) := by unfold crossZ Yl; grind
theorem edg_in {C : List Pt} (hn : 0 < C.length) (j : Nat) : (pt C (j % C.length), pt C ((j + 1) % C.length)) ∈ edg C := by
  have hj := Nat.mod_lt j hn
  have := getD_mem (l := edg C) (d := ((0, 0), (0, 0))) (i := j % C.length) (by rw [edg_len]; exact hj)
  rw [edg_at hj, Nat.mod_add_mod] at this
  exact this
theorem off_of {C : List Pt} (hK : Ok C) (hn : 0 < C.length) {p : Pt} (hp : May p) (hno : ∀ e ∈ edg C, ¬ On e.1 e.2 p) : Jor.Off (pQ 1 C) (p.1 : Rat) (Yl 1 p : Rat) := by
  refine ⟨fun j e => ?_, fun j ho hx => ?_⟩
  · have e1 : Yl 1 (pt C (j % C.length)) = Yl 1 p := cast_eq.1 e
    have e2 : pt C (j % C.length) = p := Yl_inj (.inl rfl) (hK _ (getD_mem (Nat.mod_lt _ hn))) hp e1
    refine hno _ (edg_in hn j) ?_
    dsimp only
    rw [e2]
    exact On_left _ _
  · have ha : May (pt C (j % C.length)) := hK _ (getD_mem (Nat.mod_lt _ hn))
    have hb : May (pt C ((j + 1) % C.length)) := hK _ (getD_mem (Nat.mod_lt _ hn))
    have hno := hno _ (edg_in hn j)
    unfold pQ at ho hx
    generalize pt C (j % C.length) = a at *
    generalize pt C ((j + 1) % C.length) = b at *
    have hne : (emb 1 a).2 ≠ (emb 1 b).2 := by unfold Jor.ospn at ho; grind
    have hab : a ≠ b := fun e => hne (by rw [e])
    have e := xat_cross hne (p.1 : Rat) (Yl 1 p : Rat)
    have hz : crossZ a b p = 0 := by
      have c1 := congrArg (fun n : Int => (n : Rat)) (cross_lev a b p)
      have c2 : (((b.1 - a.1) * (Yl 1 p - Yl 1 a) - (Yl 1 b - Yl 1 a) * (p.1 - a.1) : Int) : Rat) = ((b.1 : Rat) - a.1) * ((Yl 1 p : Rat) - Yl 1 a) - ((Yl 1 b : Rat) - Yl 1 a) * ((p.1 : Rat) - a.1) := by push_cast; rfl
      rw [c2] at c1
      have c3 : ((134217728 * crossZ a b p : Int) : Rat) = ((0 : Int) : Rat) := by
        rw [c1]
        unfold emb at e hx
        dsimp only at e hx
        rw [hx] at e
        have : ((0 : Int) : Rat) = 0 := rfl
        grind
      have := cast_eq.1 c3
      omega
    refine hno (show On a b p from OnL (σ := 1) (.inl rfl) ha hb hab hz ?_)
    unfold Jor.ospn emb at ho
    dsimp only at ho
    rw [cast_lt, cast_lt, cast_lt, cast_lt] at ho
    omega
def Wth (b : Bx) (p : Pt) : Prop := (b.1.1 < p.1 ∧ p.1 < b.2.1) ∧ b.1.2 < p.2 ∧ p.2 < b.2.2
theorem lam_lt {c d : Int} {y : Bool} (h : c < d) : lam c y < lam d y := by
  have := cast_lt.2 h
  unfold lam
  split <;> grind
theorem wth_ins {b : Bx} {p : Pt} (h : Wth b p) : ∀ s ∈ sds b, Ins s.1 s.2.1 s.2.2 (p.1 : Rat) (Yl 1 p : Rat) := fun s hs => by
  have e : ∀ y : Bool, (p.1 : Rat) + eps y * (Yl 1 p : Rat) = lam (fl y p).1 y := fun y => lam_at y p
  unfold Ins
  rw [e]
  unfold Wth at h
  simp only [sds, List.mem_cons, List.not_mem_nil, or_false] at hs
  rcases hs with rfl | rfl | rfl | rfl
  · exact lam_lt h.1.1
  · exact lam_lt h.1.2
  · exact lam_lt h.2.1
  · exact lam_lt h.2.2
theorem ins_or_out {c : Int} {up y : Bool} {x t : Rat} (h : ¬ Ins c up y x t) (hne : x ≠ lam c y - eps y * t) : Out c up y x t := by
  unfold Ins at h
  unfold Out
  generalize lam c y = k at *
  generalize eps y * t = z at *
  cases up
  · simp only [Bool.false_eq_true, if_false] at h ⊢
    grind
  · simp only [if_true] at h ⊢
    grind
section
variable {l : List Pt} {b : Bx} (hW : Whl l b) {p : Pt} (hp : Wth b p)
include hW hp
theorem clip_wind : Jor.W (thin (hfs (sds b) l)).length (pQ 1 (thin (hfs (sds b) l))) (p.1 : Rat) (Yl 1 p : Rat) = Jor.W l.length (pQ 1 l) (p.1 : Rat) (Yl 1 p : Rat) := by
  rw [W_csum, W_csum, clip_in hW (wth_ins hp)]
theorem clip_off (hoff : ∀ e ∈ edg l, ¬ On e.1 e.2 p) : ∀ e ∈ edg (thin (hfs (sds b) l)), ¬ On e.1 e.2 p := by
  refine thin_R (R := fun u v => ¬ On u v p) (chain hW (T := fun u v => ¬ On u v p) hoff (fun u v c _ hv hc hno => ?_) (fun s hs u v h1 h2 hon => ?_)).2.2.2
  · have key : p.1 = u.1 → (min u.2 v.2 ≤ p.2 ∧ p.2 ≤ max u.2 v.2) → On u v p := fun h1 h2 => by
      refine ⟨?_, ?_, h2⟩
      · unfold crossZ; rw [← hv, h1]; grind
      · rw [← hv]; omega
    unfold Ct at hc
    constructor
    · rintro ⟨_, h1, h2⟩
      dsimp only at h1 h2
      exact hno (key (by omega) (by omega))
    · rintro ⟨_, h1, h2⟩
      dsimp only at h1 h2
      exact hno (key (by omega) (by omega))
  · obtain ⟨_, o1, o2⟩ := hon
    unfold Wth at hp
    simp only [sds, List.mem_cons, List.not_mem_nil, or_false] at hs
    rcases hs with rfl | rfl | rfl | rfl
    · have h1 : u.1 = b.1.1 := h1
      have h2 : v.1 = b.1.1 := h2
      omega
    · have h1 : u.1 = b.2.1 := h1
      have h2 : v.1 = b.2.1 := h2
      omega
    · have h1 : u.2 = b.1.2 := h1
      have h2 : v.2 = b.1.2 := h2
      omega
    · have h1 : u.2 = b.2.2 := h1
      have h2 : v.2 = b.2.2 := h2
      omega
theorem wth_may : May p := by
  have := hW.2.2.1
  unfold Rt May at this
  unfold Wth at hp
  unfold May
  omega
omit hp in
theorem clip_ok : Ok (thin (hfs (sds b) l)) := fun q hq => hfs_ok (sds b) hW.2.1 q (thin_mem hq)
theorem clip_area (hS : Simple l) (hoff : ∀ e ∈ edg l, ¬ On e.1 e.2 p) (hn : wZ l p ≠ 0) : shoe (thin (hfs (sds b) l)) ≠ 0 := by
  have h3 := hS.1.1
  have hm := wth_may hW hp
  have hC := clip_ok hW
  have hw := clip_wind hW hp
  have hoffC := clip_off hW hp hoff
  have hR := hS.ring (σ := 1) (.inl rfl)
  obtain ⟨ω, hω, _, hlev, _⟩ := Jor.jordan hR
  rw [wZ_W hS.1.2 (by omega) hm] at hn
  have ol := off_of hS.1.2 (by omega) hm hoff
  have hval := hlev (p.1 : Rat) (Yl 1 p : Rat) ol.1
  have hC0 : 0 < (thin (hfs (sds b) l)).length := by
    rcases Nat.eq_zero_or_pos (thin (hfs (sds b) l)).length with h | h
    · rw [h] at hw
      exact absurd (show Jor.W l.length (pQ 1 l) (p.1 : Rat) (Yl 1 p : Rat) = 0 by rw [← hw]; rfl) hn
    · exact h
  have hout : ∀ x t, Jor.W (thin (hfs (sds b) l)).length (pQ 1 (thin (hfs (sds b) l))) x t = csum (fq x t) (thin (hfs (sds b) l)) := fun x t => W_csum _ x t
  have oC := off_of hC hC0 hm hoffC
  have hin : ∀ x t, (∀ s ∈ sds b, Ins s.1 s.2.1 s.2.2 x t) → csum (fq x t) (thin (hfs (sds b) l)) = csum (fq x t) l := fun x t h => clip_in hW h
  have hot : ∀ x t s, s ∈ sds b → Out s.1 s.2.1 s.2.2 x t → csum (fq x t) (thin (hfs (sds b) l)) = 0 := fun x t s hs h => clip_out hs h
  generalize thin (hfs (sds b) l) = C at *
  have := (Jor.area_signX (w := ω) hC0 (pQ_per 1 C) (D := (List.range l.length).map fun j => (pQ 1 l j).2) (E := fun t => (sds b).map fun s => lam s.1 s.2.2 - eps s.2.2 * t) (fun x t _ hD hE => by
    by_cases hall : ∀ s ∈ sds b, Ins s.1 s.2.1 s.2.2 x t
    · rw [hout, hin x t hall, ← W_csum]
      have := hlev x t (fun j e => by
        refine hD (List.mem_map.2 ⟨j % l.length, List.mem_range.2 (Nat.mod_lt _ (by omega)), ?_⟩)
        rw [← e]
        unfold pQ
        rw [Nat.mod_mod])
      rcases this with h | h
      · rw [h]; omega
      · rw [h]; rcases hω with rfl | rfl <;> decide
    · obtain ⟨s, hs⟩ := Classical.not_forall.1 hall
      obtain ⟨hs1, hs2⟩ := Classical.not_imp.1 hs
      have hne : x ≠ lam s.1 s.2.2 - eps s.2.2 * t := fun e => hE (List.mem_map.2 ⟨s, hs1, e.symm⟩)
      have ho := ins_or_out hs2 hne
      rw [hout, hot x t s hs1 ho]; omega)).2 ⟨(p.1 : Rat), (Yl 1 p : Rat), oC, fun hD => by
        obtain ⟨j, _, e⟩ := List.mem_map.1 hD
        exact ol.1 j e, fun hE => by
        obtain ⟨s, hs, e⟩ := List.mem_map.1 hE
        have := wth_ins hp s hs
        unfold Ins at this
        split at this <;> grind, by
        rw [hw]
        rcases hval with h | h
        · exact absurd h hn
        · rw [h]; rcases hω with rfl | rfl <;> decide⟩
  rw [area_cast 1 hC0] at this
  intro e
  rw [e, Int.mul_zero] at this
  have z0 : ((0 : Int) : Rat) = 0 := rfl
  rw [z0, Rat.mul_zero] at this
  exact Rat.lt_irrefl this
end
set_option maxRecDepth 4000
def MB (b : Bx) (q : Pt) : Prop := (Rt b ∧ May q) ∧ (b.1.1 ≤ q.1 ∧ q.1 ≤ b.2.1) ∧ b.1.2 ≤ q.2 ∧ q.2 ≤ b.2.2
instance (b : Bx) (q : Pt) : Decidable (MB b q) := by unfold MB; infer_instance
theorem Meet_eq (b : Bx) (q : Pt) : rows_Meet b (q, q) = some (decide (MB b q)) := by
  have hq : Rt (q, q) ↔ May q := by unfold Rt; simp
  unfold rows_Meet
  rw [rRight_eq, bind_some', rRight_eq]
  have e : (gd (decide (Rt b)) (some (decide (Rt (q, q)))) false) = some (decide (Rt b) && decide (May q)) := by
    by_cases h : Rt b
    · rw [decide_eq_true h, Bool.true_and]
      show some (decide (Rt (q, q))) = _
      congr 1
      rw [Bool.eq_iff_iff, decide_eq_true_iff, decide_eq_true_iff]; exact hq
    · rw [decide_eq_false h]; rfl
  rw [e, bind_some', bind_some', bind_some']
  congr 1
  rw [Bool.eq_iff_iff]
  simp only [Bool.and_eq_true, decide_eq_true_eq]
  unfold MB
  grind
theorem May01_eq (p : Pt) : ref01_May p = some (decide (May p)) := by
  unfold ref01_May
  rw [bind_some', bind_some']
  congr 1
  rw [Bool.eq_iff_iff]
  simp only [Bool.and_eq_true, decide_eq_true_eq]
  unfold May
  grind
theorem mb_up {b : Bx} {q : Pt} : MB b q ↔ (Rt b ∧ May q) ∧ ∀ s ∈ sds b, Up s.1 s.2.1 s.2.2 q := by
  have : (∀ s ∈ sds b, Up s.1 s.2.1 s.2.2 q) ↔ ((b.1.1 ≤ q.1 ∧ q.1 ≤ b.2.1) ∧ b.1.2 ≤ q.2 ∧ q.2 ≤ b.2.2) := by
    have e1 := Up_iff b.1.1 true false q
    have e2 := Up_iff b.2.1 false false q
    have e3 := Up_iff b.1.2 true true q
    have e4 := Up_iff b.2.2 false true q
    simp only [fl, if_true, Bool.false_eq_true, if_false] at e1 e2 e3 e4
    constructor
    · intro h
      have a1 := h (b.1.1, true, false) (by simp [sds])
      have a2 := h (b.2.1, false, false) (by simp [sds])
      have a3 := h (b.1.2, true, true) (by simp [sds])
      have a4 := h (b.2.2, false, true) (by simp [sds])
      exact ⟨⟨e1.1 a1, e2.1 a2⟩, e3.1 a3, e4.1 a4⟩
    · intro h s hs
      simp only [sds, List.mem_cons, List.not_mem_nil, or_false] at hs
      rcases hs with rfl | rfl | rfl | rfl
      · exact e1.2 h.1.1
      · exact e2.2 h.1.2
      · exact e3.2 h.2.1
      · exact e4.2 h.2.2
  unfold MB
  rw [this]
theorem shoe_three {C : List Pt} (h : shoe C ≠ 0) : 3 ≤ C.length := by
  match C, h with
  | [], h => exact absurd rfl h
  | [a], h =>
    refine absurd ?_ h
    simp [shoe, edg, sumZ] <;> grind
  | [a, b], h =>
    refine absurd ?_ h
    simp [shoe, edg, sumZ] <;> grind
  | a :: b :: c :: C, _ => simp
theorem shoe_csum (l : List Pt) : shoe l = csum sh l := csum_edg sh l
theorem area_shoe {l : List Pt} (h : 3 ≤ l.length) (hk : Ok l) : area l = shoe l := by
  unfold area; rw [if_pos ⟨h, hk⟩, aZ_shoe]
theorem rg_in {l : List Pt} {b : Bx} : ∀ q ∈ rg l b, MB b q := fun q hq => by
  unfold rg at hq
  split at hq
  · rename_i h
    split at hq
    · simp at hq
    · exact mb_up.2 ⟨⟨h.2, hfs_ok (sds b) h.1 q (thin_mem hq)⟩, fun s hs => clip_up hs q hq⟩
  · simp at hq
theorem rg_all {l : List Pt} {b : Bx} (h : ∀ q ∈ l, MB b q) (hl : 0 < l.length) (ha : area l ≠ 0) : rg l b = thin l := by
  have h1 : Rt b := (h _ (getD_mem (d := (0, 0)) hl)).1.1
  have hk : Ok l := fun q hq => (h q hq).1.2
  have hs : hfs (sds b) l = l := hfs_self (sds b) fun s hs q hq => (mb_up.1 (h q hq)).2 s hs
  have hsh : ∀ a : Pt, sh (a, a) = 0 := fun a => by unfold sh; grind
  have ha2 : shoe (thin l) ≠ 0 := by
    rw [shoe_csum, thin_csum hsh, ← area_csum hk]; exact ha
  have h3 := shoe_three ha2
  unfold rg
  rw [if_pos ⟨hk, h1⟩, hs, if_neg]
  rintro (h4 | h4)
  · omega
  · rw [area_shoe h3 (fun q hq => hk q (thin_mem hq))] at h4
    exact ha2 h4
theorem same_wind {l : List Pt} {b : Bx} {p : Pt} (hW : Whl l b) (hp : Wth b p) (hne : Simple l ∨ rg l b ≠ []) : ((winding l p).2 = false ∨ (winding (rg l b) p).2 = true ∧ (winding l p).1 = (winding (rg l b) p).1) := by
  have hm := wth_may hW hp
  by_cases hon : OnR l p
  · left
    unfold winding
    rw [if_pos ⟨hm, hW.2.1⟩, if_pos hon]
  · right
    have hoff : ∀ e ∈ edg l, ¬ On e.1 e.2 p := fun e he h => hon ⟨e, he, h⟩
    have hC := clip_ok hW
    have hl : 0 < l.length := List.length_pos_iff.2 hW.1
    have e1 : winding l p = (wZ l p, true) := by unfold winding; rw [if_pos ⟨hm, hW.2.1⟩, if_neg hon]
    rw [e1]
    have hrg : rg l b = if (thin (hfs (sds b) l)).length < 3 ∨ area (thin (hfs (sds b) l)) = 0 then [] else thin (hfs (sds b) l) := by unfold rg; rw [if_pos ⟨hW.2.1, hW.2.2.1⟩]
    by_cases hnil : (thin (hfs (sds b) l)).length < 3 ∨ area (thin (hfs (sds b) l)) = 0
    · rw [if_pos hnil] at hrg
      have hS : Simple l := hne.resolve_right (fun h => h hrg)
      have hz : wZ l p = 0 := by
        by_cases h : wZ l p = 0
        · exact h
        · have ha := clip_area hW hp hS hoff h
          have h3 := shoe_three ha
          rcases hnil with q | q
          · omega
          · rw [area_shoe h3 hC] at q
            exact absurd q ha
      rw [hrg, hz]
      have : winding [] p = (0, true) := by
        unfold winding
        rw [if_pos ⟨hm, fun q hq => by simp at hq⟩, if_neg (by rintro ⟨e, he, _⟩; simp [edg] at he)]; rfl
      rw [this]
      exact ⟨rfl, rfl⟩
    · rw [if_neg hnil] at hrg
      rw [hrg]
      have hlen : 0 < (thin (hfs (sds b) l)).length := by omega
      have hoffC := clip_off hW hp hoff
      have hw := clip_wind hW hp
      rw [← wZ_W hC hlen hm, ← wZ_W hW.2.1 hl hm] at hw
      have e2 : winding (thin (hfs (sds b) l)) p = (wZ (thin (hfs (sds b) l)) p, true) := by
        unfold winding
        rw [if_pos ⟨hm, hC⟩, if_neg (by rintro ⟨e, he, h⟩; exact hoffC e he h)]
      rw [e2]
      exact ⟨rfl, hw.symm⟩
theorem rg_len {l : List Pt} (b : Bx) : (rg l b).length ≤ 16 * l.length := by
  have h1 := hfs_len (sds b) l
  have h2 := thin_len (hfs (sds b) l)
  have : (sds b).length = 4 := rfl
  rw [this] at h1
  unfold rg
  split
  · split
    · simp
    · omega
  · simp
theorem law21_PolyclipKeeps_true (x0 : List (Int × Int)) (x1 : (Int × Int) × (Int × Int)) (x2 : Int × Int) (k0 : ∀ y2 ∈ x0, I64 y2.1 ∧ I64 y2.2) (k1 : (I64 x1.1.1 ∧ I64 x1.1.2) ∧ (I64 x1.2.1 ∧ I64 x1.2.2)) (k2 : I64 x2.1 ∧ I64 x2.2) : law21_PolyclipKeeps x0 x1 x2 = some true := by
  unfold law21_PolyclipKeeps
  have hn := take40 x0
  rw [Cut_eq, bind_some', Ring_eq x1 (by omega), bind_some']
  generalize x0.take 40 = l at hn
  have hrl := rg_len (l := l) x1
  have e0 : gd (decide (0 < (l.length : Int))) (rows_Right x1) false = some (decide (0 < l.length) && decide (Rt x1)) := by
    rw [rRight_eq]
    by_cases h : 0 < l.length
    · rw [decide_eq_true (show 0 < (l.length : Int) by omega), decide_eq_true h]; rfl
    · rw [decide_eq_false (show ¬ 0 < (l.length : Int) by omega), decide_eq_false h]; rfl
  rw [e0, bind_some', bind_some']
  have hlen : decide (0 < (l.length : Int)) = decide (0 < l.length) := by simp
  rw [hlen, ← Bool.and_assoc, Bool.and_self]
  -- the second loop
  have h2 : ∀ ins : Bool, (ins = true → 0 < l.length ∧ ∀ q ∈ l, MB x1 q) → law21_PolyclipKeeps_l2 x1 x2 l (rg l x1) ins 0 = some true := fun ins hins => by
    have := loopO_nat (body := fun s => law21_PolyclipKeeps_b2 x1 x2 l (rg l x1) ins s) (fun k => (k : Int)) (rg l x1).length true (fun k hk => by
      show law21_PolyclipKeeps_b2 _ _ _ _ _ _ = _
      unfold law21_PolyclipKeeps_b2
      rw [dlt hk, if_pos rfl, ix_getD (0, 0) hk, bind_some', bind_some', Meet_eq, bind_some', decide_eq_true (rg_in _ (getD_mem hk)), Bool.not_true, if_neg (by decide), ad_one (by omega)]) (by
      show law21_PolyclipKeeps_b2 _ _ _ _ _ _ = _
      unfold law21_PolyclipKeeps_b2
      rw [dnlt (Nat.lt_irrefl _), if_neg (by decide), Thin_eq (by omega), bind_some', Area_eq (by omega)]
      have ht := thin_len l
      have hA : (gd ins (some (area l)) 0).bind (fun r250 => (gd (ins && (!decide (r250 = 0))) (law01_Ofs (thin l)) []).bind fun r251 => (gd (ins && (!decide (r250 = 0))) (law03_Same (rg l x1) r251) false).bind fun r254 => (some ((ins && (!decide (r250 = 0))) && (!r254)))) = some false := by
        cases ins with
        | false => rfl
        | true =>
          obtain ⟨h0, hall⟩ := hins rfl
          show (some (area l)).bind _ = _
          rw [bind_some']
          by_cases ha : area l = 0
          · rw [decide_eq_true ha]; rfl
          · rw [decide_eq_false ha]
            show (law01_Ofs (thin l)).bind _ = _
            rw [Ofs_eq _ (by omega), bind_some']
            show (law03_Same (rg l x1) (thin l)).bind _ = _
            rw [law03_Same_eq _ _ (by omega), bind_some', decide_eq_true (rg_all hall h0 ha)]; rfl
      have hA2 : ∀ K : Bool → Option Bool, ((gd ins (some (area l)) 0).bind (fun r250 => (gd (ins && (!decide (r250 = 0))) (law01_Ofs (thin l)) []).bind fun r251 => (gd (ins && (!decide (r250 = 0))) (law03_Same (rg l x1) r251) false).bind fun r254 => (some ((ins && (!decide (r250 = 0))) && (!r254))).bind K)) = K false := fun K => by
        have : ((gd ins (some (area l)) 0).bind (fun r250 => (gd (ins && (!decide (r250 = 0))) (law01_Ofs (thin l)) []).bind fun r251 => (gd (ins && (!decide (r250 = 0))) (law03_Same (rg l x1) r251) false).bind fun r254 => (some ((ins && (!decide (r250 = 0))) && (!r254))))).bind K = K false := by rw [hA]; rfl
        simp only [Option.bind_assoc] at this
        exact this
      rw [hA2]
      rw [if_neg (by decide), Whole_eq _ (by omega), bind_some', known21]
      have hS : gd (!(!decide (Whl l x1))) (ring_Simple l) false = some (decide (Whl l x1) && decide (Simple l)) := by
        rw [Simple_eq (by omega)]
        cases decide (Whl l x1) <;> rfl
      rw [hS, bind_some', bind_some', bind_some', bind_some']
      by_cases hW : Whl l x1
      · rw [decide_eq_true hW]
        by_cases hbad : ((!true || (!(true && decide (Simple l)) && decide (((rg l x1).length : Int) = 0))) || decide (x2.1 ≤ x1.1.1) || decide (x1.2.1 ≤ x2.1) || decide (x2.2 ≤ x1.1.2) || decide (x1.2.2 ≤ x2.2)) = true
        · rw [if_pos hbad]; rfl
        · rw [if_neg hbad, Winding_eq _ (by omega), bind_some', Winding_eq _ (by omega), bind_some', bind_some', bind_some', bind_some']
          simp only [Bool.or_eq_true, Bool.and_eq_true, Bool.not_eq_true', decide_eq_true_eq, decide_eq_false_iff_not, Bool.not_true, Bool.true_and, not_or, Bool.false_eq_true] at hbad
          have hp : Wth x1 x2 := by unfold Wth; omega
          have hne : Simple l ∨ rg l x1 ≠ [] := by
            by_cases h : Simple l
            · exact .inl h
            · right
              intro e
              have := hbad.1.1.1.1.2
              rw [e] at this
              exact this ⟨h, rfl⟩
          have hfin := same_wind hW hp hne
          have hm := wth_may hW hp
          have hx : ((true && ((!(winding l x2).2 || !(winding (rg l x1) x2).2) || decide ((winding l x2).1 = (winding (rg l x1) x2).1))) && (!(winding l x2).2 || (winding (rg l x1) x2).2)) = true := by
            rcases hfin with h | ⟨h, h3⟩
            · rw [h]; rfl
            · rw [h, decide_eq_true h3]; cases (winding l x2).2 <;> rfl
          rw [hx]
          show Option.map Sum.inr ((ref01_May x2).bind _) = _
          rw [May01_eq, decide_eq_true hm]; rfl
      · rw [decide_eq_false hW]; rfl)
    exact this
  -- the first loop
  have h1 := loopO_nat (body := fun s => law21_PolyclipKeeps_b1 x1 x2 l (rg l x1) s.1 s.2) (fun k => (decide (0 < l.length) && decide (Rt x1) && (l.take k).all (fun q => decide (MB x1 q)), (k : Int))) l.length true (fun k hk => by
    show law21_PolyclipKeeps_b1 _ _ _ _ _ _ = _
    unfold law21_PolyclipKeeps_b1
    have ha : (l.take (k + 1)).all (fun q => decide (MB x1 q)) = ((l.take k).all (fun q => decide (MB x1 q)) && decide (MB x1 (l.getD k (0, 0)))) := by
      rw [snoc_take (0, 0) hk, List.all_append]; simp
    dsimp only
    rw [ha, dlt hk, if_pos rfl, ix_getD (0, 0) hk, ad_one (by omega), ← Bool.and_assoc]
    generalize (decide (0 < l.length) && decide (Rt x1) && (l.take k).all (fun q => decide (MB x1 q))) = u
    cases u with
    | false => rfl
    | true =>
      show (rows_Meet x1 (l.getD k (0, 0), l.getD k (0, 0))).bind _ = _
      rw [Meet_eq, bind_some', Bool.true_and]) (by
    show law21_PolyclipKeeps_b1 _ _ _ _ _ _ = _
    unfold law21_PolyclipKeeps_b1
    dsimp only
    rw [dnlt (Nat.lt_irrefl _), if_neg (by decide), h2 _ (fun hh => by
      rw [Bool.and_eq_true, Bool.and_eq_true, decide_eq_true_eq, List.take_length, List.all_eq_true] at hh
      exact ⟨hh.1.1, fun q hq => of_decide_eq_true (hh.2 q hq)⟩)]; rfl)
  have e1 : (l.take 0).all (fun q => decide (MB x1 q)) = true := by simp
  rw [e1, Bool.and_true] at h1
  exact h1
end Go.Proofs.Ytopnbammdeimcaa.Pl
