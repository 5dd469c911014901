/-
  RingAreas. No program in sight.
-/
import Derived.Test.YthkmkmkcnljmaaaP03g
namespace Go.Proofs.Ythkmkmkcnljmaaa.Pl

theorem known03 : law03_known = some true := by
  have h1 : ring_Winding [(0, 0), (4, 0), (4, 4), (0, 4)] (2, 2) = some (1, true) := by
    rw [Winding_eq _ (by simp)]; decide +kernel
  have h2 : ring_Winding [(0, 0), (4, 0), (4, 4), (0, 4)] (4, 2) = some (0, false) := by
    rw [Winding_eq _ (by simp)]; decide +kernel
  have h3 : ring_Beside [(0, 0), (4, 0), (4, 4), (0, 4)] (0, 0) (4, 0) = some (1, true) := by
    rw [Beside_eq _ _ (by simp)]; decide +kernel
  have h4 : ring_Beside [(0, 0), (4, 0), (4, 4), (0, 4)] (4, 0) (0, 0) = some (0, true) := by
    rw [Beside_eq _ _ (by simp)]; decide +kernel
  have h5 : ring_Area [(0, 0), (4, 0), (4, 4), (0, 4)] = some 32 := by
    rw [Area_eq (by simp)]; decide +kernel
  have h6 : ring_Simple [(0, 0), (4, 0), (4, 4), (0, 4)] = some true := by
    rw [Simple_eq (by simp)]; decide +kernel
  unfold law03_known
  rw [h1, h2, show ix [((0 : Int), (0 : Int)), (4, 0), (4, 4), (0, 4)] 0 = some (0, 0) from rfl, show ix [((0 : Int), (0 : Int)), (4, 0), (4, 4), (0, 4)] 1 = some (4, 0) from rfl]
  simp only [bind_some', h3, h4, h5, h6, decide_true, gd_true]
  rfl
/-! ### the area, twice -/
def shoe (l : List Pt) : Int := sumZ ((edg l).map fun e => e.1.1 * e.2.2 - e.2.1 * e.1.2)
theorem sum_add {X : Type} (f g : X → Int) : ∀ L : List X, sumZ (L.map fun x => f x + g x) = sumZ (L.map f) + sumZ (L.map g)
  | [] => rfl
  | x :: r => by
    have := sum_add f g r
    simp only [sumZ, List.map_cons, List.foldr_cons] at this ⊢
    omega
theorem sum_neg {X : Type} (f : X → Int) : ∀ L : List X, sumZ (L.map fun x => - f x) = - sumZ (L.map f)
  | [] => rfl
  | x :: r => by
    have := sum_neg f r
    simp only [sumZ, List.map_cons, List.foldr_cons] at this ⊢
    omega
theorem sum_mul {X : Type} (k : Int) (f : X → Int) : ∀ L : List X, sumZ (L.map fun x => k * f x) = k * sumZ (L.map f)
  | [] => by simp [sumZ]
  | x :: r => by
    have := sum_mul k f r
    simp only [sumZ, List.map_cons, List.foldr_cons] at this ⊢
    rw [this, Int.mul_add]
theorem edg_fst (l : List Pt) : (edg l).map Prod.fst = l := by
  unfold edg
  rw [List.map_fst_zip]
  simp; omega
theorem edg_snd (l : List Pt) : (edg l).map Prod.snd = l.drop 1 ++ l.take 1 := by
  unfold edg
  rw [List.map_snd_zip]
  simp; omega
theorem sum_next (f : Pt → Int) (l : List Pt) : sumZ ((edg l).map fun e => f e.2) = sumZ ((edg l).map fun e => f e.1) := by
  have h1 : (edg l).map (fun e => f e.2) = (l.drop 1 ++ l.take 1).map f := by rw [← edg_snd, List.map_map]; rfl
  have h2 : (edg l).map (fun e => f e.1) = l.map f := by
    conv => rhs; rw [← edg_fst l]
    rw [List.map_map]; rfl
  rw [h1, h2]
  refine sumZ_perm (List.Perm.map f ?_)
  have : (l.drop 1 ++ l.take 1).Perm (l.take 1 ++ l.drop 1) := List.perm_append_comm
  rwa [List.take_append_drop] at this
theorem aZ_shoe (l : List Pt) : aZ l = shoe l := by
  unfold aZ shoe
  generalize l.getD 0 (0, 0) = o
  have key : ∀ g : Pt → Int, (∀ e : Pt × Pt, crossZ o e.1 e.2 = (e.1.1 * e.2.2 - e.2.1 * e.1.2) + (g e.2 + - g e.1)) → sumZ ((edg l).map fun e => crossZ o e.1 e.2) = sumZ ((edg l).map fun e => e.1.1 * e.2.2 - e.2.1 * e.1.2) := by
    intro g e
    rw [show (fun e : Pt × Pt => crossZ o e.1 e.2) = fun e => (e.1.1 * e.2.2 - e.2.1 * e.1.2) + (g e.2 + - g e.1) from funext e, sum_add, sum_add (fun e : Pt × Pt => g e.2), sum_neg (fun e : Pt × Pt => g e.1), sum_next g]
    omega
  exact key (fun p => p.1 * o.2 - p.2 * o.1) (fun e => by unfold crossZ; grind)
theorem shoe_bd {e : Pt × Pt} (h1 : May e.1) (h2 : May e.2) : -2251799813685248 ≤ e.1.1 * e.2.2 - e.2.1 * e.1.2 ∧ e.1.1 * e.2.2 - e.2.1 * e.1.2 ≤ 2251799813685248 := by
  unfold May at h1 h2
  have q1 := ml_25 (a := e.1.1) (b := e.2.2) (by omega) (by omega)
  have q2 := ml_25 (a := e.2.1) (b := e.1.2) (by omega) (by omega)
  omega
theorem sum_bd {X : Type} {f : X → Int} {W : Int} (h0 : 0 ≤ W) : ∀ (L : List X), (∀ x ∈ L, -W ≤ f x ∧ f x ≤ W) → -(W * L.length) ≤ sumZ (L.map f) ∧ sumZ (L.map f) ≤ W * L.length
  | [], _ => by simp [sumZ]
  | x :: r, h => by
    have e : W * ((x :: r).length : Int) = W * (r.length : Int) + W := by rw [List.length_cons, Int.natCast_add, Int.mul_add]; simp
    have := sum_bd h0 r (fun y hy => h y (by simp [hy]))
    have hx := h x (by simp)
    rw [e]
    simp only [sumZ, List.map_cons, List.foldr_cons] at this ⊢
    omega
theorem refArea_eq {l : List Pt} (hn : l.length ≤ 1000) (h1 : 1 ≤ l.length) (hk : Ok l) : ref03_Area l = some (shoe l) := by
  unfold ref03_Area ref03_Area_l1 shoe
  have hl := edg_len l
  have := loopO_nat (body := fun s => ref03_Area_b1 l s.1 s.2) (fun k => (sumZ (((edg l).take k).map fun e => e.1.1 * e.2.2 - e.2.1 * e.1.2), (k : Int))) l.length (sumZ ((edg l).map fun e => e.1.1 * e.2.2 - e.2.1 * e.1.2)) (fun k hk' => by
    unfold ref03_Area_b1
    have hm : l.getD k (0, 0) ∈ l := getD_mem hk'
    have hm2 : l.getD ((k + 1) % l.length) (0, 0) ∈ l := getD_mem (next_lt (by omega))
    have ht := sum_bd (f := fun e : Pt × Pt => e.1.1 * e.2.2 - e.2.1 * e.1.2) (W := 2251799813685248) (by omega) ((edg l).take k) (fun e he => shoe_bd (Ok_edg hk (List.mem_of_mem_take he)).1 (Ok_edg hk (List.mem_of_mem_take he)).2)
    have hlt : ((edg l).take k).length ≤ 1000 := by rw [List.length_take]; omega
    simp only
    rw [decide_eq_true (show (k : Int) < (l.length : Int) by omega), if_pos rfl, ix_getD (0, 0) hk', bind_some', ad_one (by omega), rm_nat (by omega), bind_some', ix_getD (0, 0) (next_lt (by omega)), bind_some', bind_some', snoc_take ((0, 0), (0, 0)) (show k < (edg l).length by omega), edg_at hk', List.map_append, sumZ_append]
    generalize l.getD k (0, 0) = p at *
    generalize l.getD ((k + 1) % l.length) (0, 0) = q at *
    have hp := hk p hm
    have hq := hk q hm2
    unfold May at hp hq
    have q1 := ml_25 (a := p.1) (b := q.2) (by omega) (by omega)
    have q2 := ml_25 (a := q.1) (b := p.2) (by omega) (by omega)
    rw [q1.1, q2.1, ad_in (by omega), sb_in (by omega)]
    simp only [List.map_cons, List.map_nil, sumZ, List.foldr_cons, List.foldr_nil] at *
    congr 3
    omega) (by
    unfold ref03_Area_b1
    simp only
    rw [decide_eq_false (by omega), if_neg Bool.false_ne_true, List.take_of_length_le (by omega)]; rfl)
  exact this
theorem take40 (l : List Pt) : (l.take 40).length ≤ 40 := by rw [List.length_take]; omega
theorem law03_RingAreas_true (x0 : List (Int × Int)) (k0 : ∀ y2 ∈ x0, I64 y2.1 ∧ I64 y2.2) : law03_RingAreas x0 = some true := by
  unfold law03_RingAreas law03_RingAreas_k1
  have hn := take40 x0
  rw [Cut_eq, bind_some', Ofs_eq _ (by omega), bind_some', ref01_All_eq (by omega), known03, Area_eq (by omega), Simple_eq (by omega), rSimple_eq (by omega)]
  generalize x0.take 40 = l at hn
  simp only [bind_some', gd_true, Bool.true_and]
  have hfin : ∀ b : Bool, (gd b (some (decide (Simple l))) false).bind (fun r67 => (gd b (some (decide (Simple l))) false).bind fun r68 => some (b && (r67 == r68))) = some b := by
    intro b; cases b <;> simp
  by_cases h3 : 3 ≤ l.length
  · rw [decide_eq_true (show 3 ≤ (l.length : Int) by omega)]
    by_cases hk : Ok l
    · rw [decide_eq_true hk]
      simp only [gd_true, bind_some', Bool.and_self, if_true]
      rw [refArea_eq (by omega) (by omega) hk, bind_some', hfin]
      congr 1
      rw [decide_eq_true_eq]
      unfold area
      rw [if_pos ⟨h3, hk⟩, aZ_shoe]
    · rw [decide_eq_false hk]
      simp only [gd_true, bind_some', Bool.and_false, Bool.false_eq_true, if_false, hfin]
      congr 1
      rw [decide_eq_true_eq]
      unfold area
      rw [if_neg fun h => hk h.2]
  · rw [decide_eq_false (show ¬ 3 ≤ (l.length : Int) by omega)]
    simp only [gd_false, bind_some', Bool.and_false, Bool.false_eq_true, if_false, hfin]
    congr 1
    rw [decide_eq_true_eq]
    unfold area
    rw [if_neg fun h => h3 h.1]
end Go.Proofs.Ythkmkmkcnljmaaa.Pl
