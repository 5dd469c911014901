import Derived.Test.YtopnbammdeimcaaP21b
namespace Go.Proofs.Ytopnbammdeimcaa.Pl
set_option linter.unusedSectionVars false
def psum (f : Pt × Pt → Int) : Pt → List Pt → Int
  | _, [] => 0
  | a, b :: r => f (a, b) + psum f b r
def csum (f : Pt × Pt → Int) : List Pt → Int
  | [] => 0
  | a :: r => psum f a (r ++ [a])
def vch (R : Pt → Pt → Prop) : Pt → List Pt → Prop
  | _, [] => True
  | a, b :: r => R a b ∧ vch R b r
def vcy (R : Pt → Pt → Prop) : List Pt → Prop
  | [] => True
  | a :: r => vch R a (r ++ [a])
theorem edg_cons (a : Pt) (r : List Pt) : edg (a :: r) = (a :: r).zip (r ++ [a]) := rfl
theorem sum_zip (f : Pt × Pt → Int) : ∀ (r : List Pt) (a z : Pt), sumZ (((a :: r).zip (r ++ [z])).map f) = psum f a (r ++ [z])
  | [], a, z => by simp [psum, sumZ]
  | b :: r, a, z => by
    have := sum_zip f r b z
    simp only [List.cons_append, List.zip_cons_cons, List.map_cons, sumZ, List.foldr_cons, psum] at this ⊢
    omega
theorem csum_edg (f : Pt × Pt → Int) (l : List Pt) : sumZ ((edg l).map f) = csum f l := by
  cases l with
  | nil => rfl
  | cons a r => rw [edg_cons, sum_zip]; rfl
theorem vch_zip (R : Pt → Pt → Prop) : ∀ (r : List Pt) (a z : Pt), (∀ e ∈ (a :: r).zip (r ++ [z]), R e.1 e.2) ↔ vch R a (r ++ [z])
  | [], a, z => by simp [vch]
  | b :: r, a, z => by
    have := vch_zip R r b z
    simp only [List.cons_append, List.zip_cons_cons, List.mem_cons, forall_eq_or_imp, vch] at this ⊢
    rw [← this]
theorem vcy_edg (R : Pt → Pt → Prop) (l : List Pt) : (∀ e ∈ edg l, R e.1 e.2) ↔ vcy R l := by
  cases l with
  | nil => simp [edg, vcy]
  | cons a r => rw [edg_cons, vch_zip]; rfl
theorem psum_app (f : Pt × Pt → Int) : ∀ (L : List Pt) (a b : Pt) (M : List Pt), psum f a (L ++ b :: M) = psum f a (L ++ [b]) + psum f b M
  | [], a, b, M => by simp [psum]
  | c :: L, a, b, M => by
    have := psum_app f L c b M
    simp only [List.cons_append, psum] at this ⊢
    omega
theorem vch_app (R : Pt → Pt → Prop) : ∀ (L : List Pt) (a b : Pt) (M : List Pt), vch R a (L ++ b :: M) ↔ vch R a (L ++ [b]) ∧ vch R b M
  | [], a, b, M => by simp [vch]
  | c :: L, a, b, M => by
    have := vch_app R L c b M
    simp only [List.cons_append, vch] at this ⊢
    rw [this, and_assoc]
theorem csum_rot (f : Pt × Pt → Int) (s t : List Pt) : csum f (s ++ t) = csum f (t ++ s) := by
  cases s with
  | nil => simp
  | cons a s =>
    cases t with
    | nil => simp
    | cons b t =>
      simp only [List.cons_append, csum, List.append_assoc]
      rw [psum_app f s a b (t ++ [a]), psum_app f t b a (s ++ [b])]
      omega
theorem vcy_rot (R : Pt → Pt → Prop) (s t : List Pt) : vcy R (s ++ t) ↔ vcy R (t ++ s) := by
  cases s with
  | nil => simp
  | cons a s =>
    cases t with
    | nil => simp
    | cons b t =>
      simp only [List.cons_append, vcy, List.append_assoc]
      rw [vch_app R s a b (t ++ [a]), vch_app R t b a (s ++ [b])]
      exact And.comm
section
variable {P Q : Pt → Prop} [DecidablePred P] {f : Pt × Pt → Int} {g : Pt → Int} (hPQ : ∀ a, ¬ P a → Q a) (hf : ∀ a b, Q a → Q b → f (a, b) = g b - g a)
include hPQ hf
theorem flt_path (z : Pt) (hz : P z) : ∀ r : List Pt,
    (∀ a, P a → vch (fun x y => (P x ∧ P y) ∨ (Q x ∧ Q y)) a (r ++ [z]) → psum f a (r.filter (fun x => decide (P x)) ++ [z]) = psum f a (r ++ [z])) ∧
    (∀ a x, Q a → ¬ P x → vch (fun x y => (P x ∧ P y) ∨ (Q x ∧ Q y)) x (r ++ [z]) → psum f a (r.filter (fun x => decide (P x)) ++ [z]) = g x - g a + psum f x (r ++ [z]))
  | [] => by
    refine ⟨fun a _ _ => rfl, fun a x ha hx hv => ?_⟩
    simp only [List.filter_nil, List.nil_append, vch, psum] at hv ⊢
    rcases hv.1 with h | h
    · exact absurd h.1 hx
    · rw [hf a z ha h.2, hf x z h.1 h.2]; omega
  | y :: r => by
    have ih := flt_path z hz r
    refine ⟨fun a ha hv => ?_, fun a x ha hx hv => ?_⟩
    · simp only [List.cons_append, vch] at hv
      by_cases hy : P y
      · rw [List.filter_cons_of_pos (by simpa using hy)]
        simp only [List.cons_append, psum]
        rw [ih.1 y hy hv.2]
      · rw [List.filter_cons_of_neg (by simpa using hy)]
        rcases hv.1 with h | h
        · exact absurd h.2 hy
        · simp only [List.cons_append, psum]
          rw [ih.2 a y h.1 hy hv.2, hf a y h.1 h.2]
    · simp only [List.cons_append, vch] at hv
      rcases hv.1 with h | h
      · exact absurd h.1 hx
      · by_cases hy : P y
        · rw [List.filter_cons_of_pos (by simpa using hy)]
          simp only [List.cons_append, psum]
          rw [ih.1 y hy hv.2, hf a y ha h.2, hf x y h.1 h.2]; omega
        · rw [List.filter_cons_of_neg (by simpa using hy)]
          simp only [List.cons_append, psum]
          rw [ih.2 a y ha hy hv.2, hf x y h.1 h.2]; omega
theorem tel_path : ∀ (r : List Pt) (a z : Pt), (∀ x ∈ r, Q x) → Q a → Q z → psum f a (r ++ [z]) = g z - g a
  | [], a, z, _, ha, hz => by simp only [List.nil_append, psum]; rw [hf a z ha hz]; omega
  | y :: r, a, z, hr, ha, hz => by
    have := tel_path r y z (fun x hx => hr x (by simp [hx])) (hr y (by simp)) hz
    simp only [List.cons_append, psum]
    rw [this, hf a y ha (hr y (by simp))]; omega
theorem flt_csum {l : List Pt} (hv : ∀ e ∈ edg l, (P e.1 ∧ P e.2) ∨ (Q e.1 ∧ Q e.2)) : csum f (l.filter (fun x => decide (P x))) = csum f l := by
  rw [vcy_edg (fun x y => (P x ∧ P y) ∨ (Q x ∧ Q y))] at hv
  by_cases h : ∃ a ∈ l, P a
  · obtain ⟨a, ha, hp⟩ := h
    obtain ⟨s, t, rfl⟩ := List.append_of_mem ha
    rw [vcy_rot] at hv
    rw [csum_rot f s, List.filter_append, csum_rot f, ← List.filter_append]
    simp only [List.cons_append, vcy] at hv ⊢
    rw [List.filter_cons_of_pos (by simpa using hp)]
    simp only [csum]
    exact (flt_path hPQ hf a hp (t ++ s)).1 a hp hv
  · have hn : ∀ x ∈ l, ¬ P x := fun x hx hp => h ⟨x, hx, hp⟩
    rw [List.filter_eq_nil_iff.2 (fun x hx => by simpa using hn x hx)]
    cases l with
    | nil => rfl
    | cons a r =>
      simp only [csum]
      rw [tel_path hPQ hf r a a (fun x hx => hPQ x (hn x (by simp [hx]))) (hPQ a (hn a (by simp))) (hPQ a (hn a (by simp)))]
      omega
end
theorem ddr_psum {f : Pt × Pt → Int} (h0 : ∀ a, f (a, a) = 0) (z : Pt) : ∀ (r : List Pt) (a : Pt), psum f a (ddr a r ++ [z]) = psum f a (r ++ [z])
  | [], a => rfl
  | y :: r, a => by
    unfold ddr
    by_cases h : y = a
    · subst h
      rw [if_pos rfl, ddr_psum h0 z r y]
      simp only [List.cons_append, psum, h0]; omega
    · rw [if_neg h]
      simp only [List.cons_append, psum]
      rw [ddr_psum h0 z r y]
theorem dd_csum {f : Pt × Pt → Int} (h0 : ∀ a, f (a, a) = 0) (l : List Pt) : csum f (dd l) = csum f l := by
  cases l with
  | nil => rfl
  | cons a r =>
    unfold dd csum
    exact ddr_psum h0 a r a
theorem trim_csum {f : Pt × Pt → Int} (h0 : ∀ a, f (a, a) = 0) : ∀ (n : Nat) (l : List Pt), csum f (trimN n l) = csum f l
  | 0, _ => rfl
  | n + 1, l => by
    unfold trimN
    by_cases h : 1 < l.length ∧ l.getD (l.length - 1) (0, 0) = l.getD 0 (0, 0)
    · rw [if_pos h, trim_csum h0 n]
      have hs := snoc_take (l := l) (k := l.length - 1) (0, 0) (by omega)
      rw [show l.length - 1 + 1 = l.length by omega, List.take_length, h.2] at hs
      generalize l.take (l.length - 1) = m at hs
      have hm : m ≠ [] := by
        rintro rfl
        have := congrArg List.length hs
        simp at this
        omega
      cases m with
      | nil => exact absurd rfl hm
      | cons a r =>
        have ha : l.getD 0 (0, 0) = a := by rw [hs]; rfl
        rw [ha] at hs
        rw [hs]
        simp only [List.cons_append, csum, List.append_assoc]
        rw [psum_app f r a a ([] ++ [a])]
        simp only [List.nil_append, psum, h0]; omega
    · rw [if_neg h]
theorem thin_csum {f : Pt × Pt → Int} (h0 : ∀ a, f (a, a) = 0) (l : List Pt) : csum f (thin l) = csum f l := by
  unfold thin
  rw [trim_csum h0, dd_csum h0]
def Up (c : Int) (up y : Bool) (p : Pt) : Prop := 0 ≤ far c up y p
instance (c : Int) (up y : Bool) : DecidablePred (Up c up y) := fun p => by unfold Up; infer_instance
theorem hf_flt {c : Int} {up y : Bool} {l : List Pt} (h : ∀ e ∈ edg l, 0 ≤ far c up y e.1 * far c up y e.2 ∨ ¬ Ctp e.1 e.2 c y) : hf c up y l = l.filter (fun p => decide (Up c up y p)) := by
  unfold hf
  have key : ∀ L : List (Pt × Pt), (∀ e ∈ L, 0 ≤ far c up y e.1 * far c up y e.2 ∨ ¬ Ctp e.1 e.2 c y) → L.flatMap (hfe c up y) = (L.map Prod.fst).filter (fun p => decide (Up c up y p)) := by
    intro L
    induction L with
    | nil => intro _; rfl
    | cons e L ih =>
      intro hL
      rw [List.flatMap_cons, List.map_cons, ih (fun x hx => hL x (by simp [hx]))]
      have he : hfe c up y e = if 0 ≤ far c up y e.1 then [e.1] else [] := by
        unfold hfe
        rcases hL e (by simp) with h | h
        · rw [if_pos h, List.append_nil]
        · rw [if_neg h]
          split <;> split <;> simp
      rw [he]
      by_cases h1 : 0 ≤ far c up y e.1
      · rw [if_pos h1, List.filter_cons_of_pos (by simpa using (show Up c up y e.1 from h1))]; rfl
      · rw [if_neg h1, List.filter_cons_of_neg (by simpa using (show ¬ Up c up y e.1 from h1))]; rfl
  rw [key _ h, edg_fst]
end Go.Proofs.Ytopnbammdeimcaa.Pl
