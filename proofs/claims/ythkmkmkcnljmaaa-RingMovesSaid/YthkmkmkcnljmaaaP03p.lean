/-
  RingSigns. RingMoves. No program in sight.
-/
import Derived.Test.YthkmkmkcnljmaaaP03o
namespace Go.Proofs.Ythkmkmkcnljmaaa.Pl

def sw (e : Pt × Pt) : Pt × Pt := (e.2, e.1)
theorem tnd_len (l : List Pt) : (tnd l).length = l.length := by simp [tnd]
theorem tnd_at {l : List Pt} {i : Nat} (h : i < l.length) : (tnd l).getD i (0, 0) = l.getD ((l.length - i) % l.length) (0, 0) := getD_map_range h
theorem tnd_tnd (l : List Pt) : tnd (tnd l) = l := by
  refine ext_getD (0, 0) (by rw [tnd_len, tnd_len]) fun i hi => ?_
  rw [tnd_len, tnd_len] at hi
  rw [tnd_at (by rw [tnd_len]; exact hi), tnd_len, tnd_at (Nat.mod_lt _ (by omega))]
  by_cases h0 : i = 0
  · subst h0; rw [Nat.sub_zero, Nat.mod_self, Nat.sub_zero, Nat.mod_self]
  · rw [Nat.mod_eq_of_lt (show l.length - i < l.length by omega), Nat.mod_eq_of_lt (by omega)]
    congr 1; omega
theorem edg_tnd (l : List Pt) : edg (tnd l) = ((edg l).map sw).reverse := by
  refine ext_getD ((0, 0), (0, 0)) (by simp [edg_len, tnd_len]) fun i hi => ?_
  rw [edg_len, tnd_len] at hi
  have hl := edg_len l
  have e1 : (((edg l).map sw).reverse).getD i ((0, 0), (0, 0)) = sw ((edg l).getD (l.length - 1 - i) ((0, 0), (0, 0))) := by
    rw [List.getD_eq_getElem?_getD, List.getElem?_reverse (by rw [List.length_map]; omega), List.length_map, hl, List.getElem?_map, List.getD_eq_getElem?_getD]
    rw [List.getElem?_eq_getElem (show l.length - 1 - i < (edg l).length by omega)]; rfl
  rw [e1, edg_at (by rw [tnd_len]; exact hi), edg_at (by omega), tnd_len, tnd_at hi, tnd_at (Nat.mod_lt _ (by omega))]
  unfold sw
  congr 1
  · congr 2; omega
  · by_cases h1 : i + 1 = l.length
    · rw [h1, Nat.mod_self, Nat.sub_zero, Nat.mod_self]; congr 1; omega
    · rw [Nat.mod_eq_of_lt (show i + 1 < l.length by omega), Nat.mod_eq_of_lt (by omega)]; congr 1; omega
theorem edg_rot (l : List Pt) {f : Nat} (hf : f < l.length) : edg (rot l f) = (edg l).drop f ++ (edg l).take f := by
  refine ext_getD ((0, 0), (0, 0)) (by rw [List.length_append, List.length_drop, List.length_take, edg_len, edg_len, rot_len]; omega) fun i hi => ?_
  rw [edg_len, rot_len] at hi
  have hl := edg_len l
  rw [edg_at (by rw [rot_len]; exact hi), rot_len, rot_at hi, rot_at (Nat.mod_lt _ (by omega)), Nat.add_mod_mod]
  by_cases h1 : i < l.length - f
  · rw [getD_append_left (by rw [List.length_drop]; omega), getD_drop, edg_at (by omega), Nat.mod_eq_of_lt (show f + i < l.length by omega)]; rfl
  · rw [getD_append_right (by rw [List.length_drop]; omega), List.length_drop, getD_take (by omega), edg_at (by omega), Nat.mod_eq_sub_mod (show f + i ≥ l.length by omega), Nat.mod_eq_of_lt (show f + i - l.length < l.length by omega), hl, show i - (l.length - f) = f + i - l.length by omega]
    congr 2
    rw [show f + (i + 1) = (f + i - l.length + 1) + l.length by omega, Nat.add_mod_right]
theorem sum_tnd (g : Pt × Pt → Int) (l : List Pt) : sumZ ((edg (tnd l)).map g) = sumZ ((edg l).map fun e => g (sw e)) := by
  rw [edg_tnd, sumZ_perm (List.Perm.map g (List.reverse_perm _)), List.map_map]; rfl
theorem perm_rot (l : List Pt) {f : Nat} (hf : f < l.length) : (edg (rot l f)).Perm (edg l) := by
  rw [edg_rot l hf]
  have := List.perm_append_comm (l₁ := (edg l).drop f) (l₂ := (edg l).take f)
  rwa [List.take_append_drop] at this
theorem mem_edg_tnd {l : List Pt} {e : Pt × Pt} : e ∈ edg (tnd l) ↔ sw e ∈ edg l := by
  rw [edg_tnd, List.mem_reverse, List.mem_map]
  constructor
  · rintro ⟨x, hx, rfl⟩; exact hx
  · intro h; exact ⟨sw e, h, rfl⟩
theorem ex_tnd {P : Pt × Pt → Prop} (h : ∀ e, P (sw e) ↔ P e) (l : List Pt) : (∃ e ∈ edg (tnd l), P e) ↔ ∃ e ∈ edg l, P e := by
  constructor
  · rintro ⟨e, he, hp⟩; exact ⟨sw e, mem_edg_tnd.1 he, (h e).2 hp⟩
  · rintro ⟨e, he, hp⟩; exact ⟨sw e, mem_edg_tnd.2 he, (h e).2 hp⟩
theorem mem_edg_fst {l : List Pt} {p : Pt} : p ∈ l ↔ ∃ e ∈ edg l, e.1 = p := by
  conv => lhs; rw [← edg_fst l]
  rw [List.mem_map]
theorem mem_edg_snd {l : List Pt} {p : Pt} : p ∈ l ↔ ∃ e ∈ edg l, e.2 = p := by
  have h1 : p ∈ (edg l).map Prod.snd ↔ ∃ e ∈ edg l, e.2 = p := List.mem_map
  rw [← h1, edg_snd]
  have : (l.drop 1 ++ l.take 1).Perm l := by
    have := List.perm_append_comm (l₁ := l.drop 1) (l₂ := l.take 1)
    rwa [List.take_append_drop] at this
  exact this.mem_iff.symm
theorem Ok_tnd (l : List Pt) : Ok (tnd l) ↔ Ok l := by
  have : ∀ p, p ∈ tnd l ↔ p ∈ l := fun p => by
    rw [mem_edg_fst, mem_edg_snd]
    constructor
    · rintro ⟨e, he, h⟩; exact ⟨sw e, mem_edg_tnd.1 he, h⟩
    · rintro ⟨e, he, h⟩; exact ⟨sw e, mem_edg_tnd.2 he, h⟩
  unfold Ok
  simp only [this]
theorem Ok_rot {l : List Pt} {f : Nat} (hf : f < l.length) : Ok (rot l f) ↔ Ok l := by
  have : ∀ p, p ∈ rot l f ↔ p ∈ l := fun p => by
    rw [mem_edg_fst, mem_edg_fst]
    simp only [(perm_rot l hf).mem_iff]
  unfold Ok
  simp only [this]
theorem wnd_sw (p : Pt) (e : Pt × Pt) : wnd p (sw e) = - wnd p e := by
  unfold wnd sw
  simp only [crossZ_swap e.1 e.2 p]
  split <;> split <;> (try split) <;> omega
theorem sdZ_sw (m : Pt) (e : Pt × Pt) : sdZ m (sw e) = - sdZ m e := by unfold sdZ sw; grind
theorem side_sw (m w : Pt) (e : Pt × Pt) : side m w (sw e) = - side m w e := by
  unfold side
  rw [sdZ_sw]
  by_cases h : sdZ m e = 0
  · rw [if_pos h, if_pos (by omega)]; unfold sw; grind
  · rw [if_neg h, if_neg (by omega)]
theorem bsd_sw (m w : Pt) (e : Pt × Pt) : bsd m w (sw e) = - bsd m w e := by
  unfold bsd
  rw [side_sw, show (sw e).1.2 = e.2.2 from rfl, show (sw e).2.2 = e.1.2 from rfl]
  by_cases h1 : Ovr m w e.1.2 <;> by_cases h2 : Ovr m w e.2.2 <;> simp only [h1, h2, not_true, not_false_iff, true_and, false_and, and_false, and_true, if_false] <;> (try split) <;> (try split) <;> (try split) <;> omega
theorem Has_sw (m w : Pt) (e : Pt × Pt) : Has m w (sw e) ↔ Has m w e := by
  unfold Has
  rw [sdZ_sw]
  have h1 : ((sw e).2.1 - (sw e).1.1) * w.2 = ((sw e).2.2 - (sw e).1.2) * w.1 ↔ (e.2.1 - e.1.1) * w.2 = (e.2.2 - e.1.2) * w.1 := by unfold sw; constructor <;> (intro h; grind)
  rw [h1]
  unfold sw
  simp only
  omega
theorem OnR_tnd (l : List Pt) (p : Pt) : OnR (tnd l) p ↔ OnR l p := ex_tnd (P := fun e => On e.1 e.2 p) (fun e => On_swap e.1 e.2 p) l
theorem HasR_tnd (l : List Pt) (a b : Pt) : HasR (tnd l) a b ↔ HasR l a b := ex_tnd (P := Has (mid a b) (way a b)) (Has_sw _ _) l
theorem wZ_tnd (l : List Pt) (p : Pt) : wZ (tnd l) p = - wZ l p := by
  unfold wZ
  rw [sum_tnd, show (fun e => wnd p (sw e)) = fun e => - wnd p e from funext (wnd_sw p), sum_neg]
theorem bZ_tnd (l : List Pt) (a b : Pt) : bZ (tnd l) a b = - bZ l a b := by
  unfold bZ
  rw [sum_tnd, show (fun e => bsd (mid a b) (way a b) (sw e)) = fun e => - bsd (mid a b) (way a b) e from funext (bsd_sw _ _), sum_neg]
theorem shoe_tnd (l : List Pt) : shoe (tnd l) = - shoe l := by
  unfold shoe
  rw [sum_tnd, ← sum_neg]
  congr 2
  funext e
  unfold sw
  simp only
  grind
theorem area_tnd (l : List Pt) : area (tnd l) = - area l := by
  unfold area
  rw [aZ_shoe, aZ_shoe, shoe_tnd, tnd_len]
  by_cases h : 3 ≤ l.length ∧ Ok l
  · rw [if_pos h, if_pos (by rw [Ok_tnd]; exact h)]
  · rw [if_neg h, if_neg (by rw [Ok_tnd]; exact h)]; rfl
theorem area_rot {l : List Pt} {f : Nat} (hf : f < l.length) : area (rot l f) = area l := by
  unfold area
  have : shoe (rot l f) = shoe l := sumZ_perm (List.Perm.map _ (perm_rot l hf))
  rw [aZ_shoe, aZ_shoe, this, rot_len]
  by_cases h : 3 ≤ l.length ∧ Ok l
  · rw [if_pos h, if_pos (by rw [Ok_rot hf]; exact h)]
  · rw [if_neg h, if_neg (by rw [Ok_rot hf]; exact h)]
theorem winding_tnd (l : List Pt) (p : Pt) : winding (tnd l) p = (- (winding l p).1, (winding l p).2) := by
  unfold winding
  rw [wZ_tnd]
  by_cases h : May p ∧ Ok l
  · rw [if_pos h, if_pos (by rw [Ok_tnd]; exact h)]
    by_cases ho : OnR l p
    · rw [if_pos ho, if_pos ((OnR_tnd l p).2 ho)]; rfl
    · rw [if_neg ho, if_neg (fun h' => ho ((OnR_tnd l p).1 h'))]
  · rw [if_neg h, if_neg (by rw [Ok_tnd]; exact h)]; rfl
theorem winding_rot {l : List Pt} {f : Nat} (hf : f < l.length) (p : Pt) : winding (rot l f) p = winding l p := by
  unfold winding
  have h1 : wZ (rot l f) p = wZ l p := sumZ_perm (List.Perm.map _ (perm_rot l hf))
  have h2 : OnR (rot l f) p ↔ OnR l p := by unfold OnR; simp only [(perm_rot l hf).mem_iff]
  rw [h1]
  by_cases h : May p ∧ Ok l
  · rw [if_pos h, if_pos (by rw [Ok_rot hf]; exact h)]
    by_cases ho : OnR l p
    · rw [if_pos ho, if_pos (h2.2 ho)]
    · rw [if_neg ho, if_neg (fun h' => ho (h2.1 h'))]
  · rw [if_neg h, if_neg (by rw [Ok_rot hf]; exact h)]
theorem beside_tnd (l : List Pt) (a b : Pt) : beside (tnd l) a b = (- (beside l a b).1, (beside l a b).2) := by
  unfold beside
  rw [bZ_tnd]
  by_cases h : ¬ a = b ∧ May a ∧ May b ∧ Ok l
  · rw [if_pos h, if_pos (by rw [Ok_tnd]; exact h)]
    by_cases ho : HasR l a b
    · rw [if_pos ho, if_pos ((HasR_tnd l a b).2 ho)]; rfl
    · rw [if_neg ho, if_neg (fun h' => ho ((HasR_tnd l a b).1 h'))]
  · rw [if_neg h, if_neg (by rw [Ok_tnd]; exact h)]; rfl
theorem pt_tnd {l : List Pt} {i : Nat} (h : i < l.length) : pt (tnd l) i = pt l ((l.length - i) % l.length) := tnd_at h
theorem Simple_tnd' {l : List Pt} (h : Simple l) : Simple (tnd l) := by
  obtain ⟨⟨h3, hk⟩, hd, hp⟩ := h
  have hlen := tnd_len l
  refine ⟨⟨by omega, (Ok_tnd l).2 hk⟩, ?_, ?_⟩
  · intro j hj i hi
    rw [hlen] at hj
    have e1 := pt_tnd (l := l) hj
    have e2 := pt_tnd (l := l) (show i < l.length by omega)
    unfold pt at e1 e2
    rw [e1, e2]
    refine Dis_ne hd (Nat.mod_lt _ (by omega)) (Nat.mod_lt _ (by omega)) ?_
    by_cases h0 : i = 0
    · subst h0; rw [Nat.sub_zero, Nat.mod_self, Nat.mod_eq_of_lt (by omega)]; omega
    · rw [Nat.mod_eq_of_lt (show l.length - j < l.length by omega), Nat.mod_eq_of_lt (show l.length - i < l.length by omega)]; omega
  · intro k hk' i hi
    rw [hlen] at hk'
    have ends : ∀ i, i < l.length → pt (tnd l) i = pt l ((l.length - 1 - i + 1) % l.length) ∧ pt (tnd l) ((i + 1) % l.length) = pt l (l.length - 1 - i) := by
      intro i hi
      rw [pt_tnd hi, pt_tnd (Nat.mod_lt _ (by omega))]
      refine ⟨by congr 2; omega, ?_⟩
      by_cases h1 : i + 1 = l.length
      · rw [h1, Nat.mod_self, Nat.sub_zero, Nat.mod_self]; congr 1; omega
      · rw [Nat.mod_eq_of_lt (show i + 1 < l.length by omega), Nat.mod_eq_of_lt (by omega)]; congr 1; omega
    have ei := ends i (by omega)
    have ek := ends k hk'
    have ne : ∀ i, i < l.length → pt l i ≠ pt l ((i + 1) % l.length) := fun i hi => Dis_edge h3 hd hi
    have hc : clR (tnd l) i k = clR l (l.length - 1 - k) (l.length - 1 - i) := by
      unfold clR
      rw [hlen, ei.1, ei.2, ek.1, ek.2, cls_swap, cls_swap2 (ne _ (by omega)) (ne _ (by omega)), cls_sym (ne _ (by omega)) (ne _ (by omega))]
    have hp' := hp (l.length - 1 - i) (by omega) (l.length - 1 - k) (by omega)
    unfold PrO at hp' ⊢
    rw [hc, hp', hlen]
    by_cases ha : Adj l.length i k
    · rw [if_pos ha, if_pos (by unfold Adj at ha ⊢; omega)]
    · rw [if_neg ha, if_neg (by unfold Adj at ha ⊢; omega)]
theorem Simple_tnd (l : List Pt) : Simple (tnd l) ↔ Simple l := ⟨fun h => by have := Simple_tnd' h; rwa [tnd_tnd] at this, Simple_tnd'⟩
theorem area_bd {l : List Pt} (hn : l.length ≤ 1000) : -2251799813685248000 ≤ area l ∧ area l ≤ 2251799813685248000 := by
  unfold area
  split
  · rename_i h
    rw [aZ_shoe]
    have hl := edg_len l
    have := sum_bd (f := fun e : Pt × Pt => e.1.1 * e.2.2 - e.2.1 * e.1.2) (W := 2251799813685248) (by omega) (edg l) (fun e he => shoe_bd (Ok_edg h.2 he).1 (Ok_edg h.2 he).2)
    unfold shoe
    omega
  · omega
theorem winding_bd {l : List Pt} (p : Pt) (hn : l.length ≤ 1000) : -1000 ≤ (winding l p).1 ∧ (winding l p).1 ≤ 1000 := by
  have hl := edg_len l
  have := sum_bd (f := wnd p) (W := 1) (by omega) (edg l) (fun e _ => wnd_bd p e)
  unfold winding wZ
  split <;> (try split) <;> simp only <;> omega
theorem beside_bd {l : List Pt} (a b : Pt) (hn : l.length ≤ 1000) : -1000 ≤ (beside l a b).1 ∧ (beside l a b).1 ≤ 1000 := by
  have hl := edg_len l
  have := sum_bd (f := bsd (mid a b) (way a b)) (W := 1) (by omega) (edg l) (fun e _ => bsd_bd _ _ e)
  unfold beside bZ
  split <;> (try split) <;> simp only <;> omega
theorem law03_RingSigns_true (x0 : List (Int × Int)) (x1 : Int × Int) (x2 : Int × Int) (x3 : Int × Int) (k0 : ∀ y2 ∈ x0, I64 y2.1 ∧ I64 y2.2) (k1 : I64 x1.1 ∧ I64 x1.2) (k2 : I64 x2.1 ∧ I64 x2.2) (k3 : I64 x3.1 ∧ I64 x3.2) : law03_RingSigns x0 x1 x2 x3 = some true := by
  unfold law03_RingSigns
  have hn := take40 x0
  rw [Cut_eq, bind_some']
  generalize x0.take 40 = l at hn
  have ht := tnd_len l
  have hr := rot_len l (fm l l.length)
  rw [Turned_eq (by omega), bind_some', First_eq (by omega), bind_some', Winding_eq _ (by omega), bind_some', Winding_eq _ (by omega), bind_some', Winding_eq _ (by omega), bind_some', Beside_eq _ _ (by omega), bind_some', Beside_eq _ _ (by omega), bind_some', known03, bind_some', Area_eq (by omega), Area_eq (by omega), Area_eq (by omega), Simple_eq (by omega), Simple_eq (by omega)]
  have e1 : winding (rot l (fm l l.length)) x1 = winding l x1 ∧ area (rot l (fm l l.length)) = area l := by
    by_cases h : 0 < l.length
    · have hf := fm_lt l.length (Nat.le_refl _) h
      exact ⟨winding_rot hf x1, area_rot hf⟩
    · have : l = [] := List.eq_nil_of_length_eq_zero (by omega)
      subst this
      exact ⟨rfl, rfl⟩
  have hd : decide (Simple (tnd l)) = decide (Simple l) := by rw [Bool.eq_iff_iff]; simp only [decide_eq_true_eq]; exact Simple_tnd l
  have b1 := area_bd (l := l) (by omega)
  have b2 := winding_bd (l := l) x1 (by omega)
  have b3 := beside_bd (l := l) x2 x3 (by omega)
  rw [e1.1, e1.2, area_tnd, winding_tnd, beside_tnd, hd]
  simp only [gd_true, bind_some']
  rw [ng_in (x := area l) (by omega), ng_in (x := (winding l x1).1) (by omega), ng_in (x := (beside l x2 x3).1) (by omega)]
  simp
set_option linter.unusedSectionVars false

/-- k times p, and v. -/
def mv (k : Int) (v p : Pt) : Pt := (k * p.1 + v.1, k * p.2 + v.2)
def mvE (k : Int) (v : Pt) (e : Pt × Pt) : Pt × Pt := (mv k v e.1, mv k v e.2)
def mvL (k : Int) (v : Pt) (l : List Pt) : List Pt := l.map (mv k v)
section
variable {k : Int} (hk : k = 1 ∨ k = 2 ∨ k = 3) (v : Pt)
theorem mvL_len (k : Int) (v : Pt) (l : List Pt) : (mvL k v l).length = l.length := List.length_map _
theorem edg_mv (k : Int) (v : Pt) (l : List Pt) : edg (mvL k v l) = (edg l).map (mvE k v) := by
  unfold edg mvL
  rw [← List.map_drop, ← List.map_take, ← List.map_append, List.zip_map]
  rfl
theorem crossZ_mv (k : Int) (v a b c : Pt) : crossZ (mv k v a) (mv k v b) (mv k v c) = k * k * crossZ a b c := by unfold crossZ mv; grind
include hk
theorem sgk (n : Int) : (0 < k * k * n ↔ 0 < n) ∧ (k * k * n < 0 ↔ n < 0) ∧ (k * k * n = 0 ↔ n = 0) := by
  rcases hk with rfl | rfl | rfl <;> omega
theorem mv_inj (a b : Pt) : mv k v a = mv k v b ↔ a = b := by
  constructor
  · intro h
    have h1 := congrArg Prod.fst h
    have h2 := congrArg Prod.snd h
    unfold mv at h1 h2
    simp only at h1 h2
    rcases hk with rfl | rfl | rfl <;> exact pt_ext (by omega) (by omega)
  · rintro rfl; rfl
theorem On_mv (a b p : Pt) : On (mv k v a) (mv k v b) (mv k v p) ↔ On a b p := by
  unfold On
  rw [crossZ_mv, (sgk hk _).2.2]
  unfold mv
  simp only
  rcases hk with rfl | rfl | rfl <;> omega
theorem wnd_mv (p : Pt) (e : Pt × Pt) : wnd (mv k v p) (mvE k v e) = wnd p e := by
  unfold wnd mvE
  simp only [crossZ_mv, (sgk hk _).1, (sgk hk _).2.1]
  have h : ∀ a b : Pt, ((mv k v a).2 ≤ (mv k v b).2 ↔ a.2 ≤ b.2) ∧ ((mv k v a).2 < (mv k v b).2 ↔ a.2 < b.2) := by
    intro a b
    unfold mv
    simp only
    rcases hk with rfl | rfl | rfl <;> omega
  simp only [(h _ _).1, (h _ _).2]
theorem sg_mv (a b c : Pt) : sg (crossZ (mv k v a) (mv k v b) (mv k v c)) = sg (crossZ a b c) := by
  rw [crossZ_mv]
  have := sgk hk (crossZ a b c)
  rcases sg_cases (crossZ a b c) with h | h | h <;> rcases sg_cases (k * k * crossZ a b c) with h' | h' | h' <;> omega
theorem cls_mv (a b c d : Pt) : cls (mv k v a) (mv k v b) (mv k v c) (mv k v d) = cls a b c d := by
  unfold cls nOn nBo
  have e1 : ∀ a b p, ind (On (mv k v a) (mv k v b) (mv k v p)) = ind (On a b p) := fun a b p => ind_iff (On_mv hk v a b p)
  have e2 : ∀ a c d, ind (mv k v a = mv k v c ∨ mv k v a = mv k v d) = ind (a = c ∨ a = d) := fun a c d => ind_iff (by rw [mv_inj hk v, mv_inj hk v])
  simp only [e1, e2, mv_inj hk v, sg_mv hk v]
theorem OnR_mv (l : List Pt) (p : Pt) : OnR (mvL k v l) (mv k v p) ↔ OnR l p := by
  unfold OnR
  rw [edg_mv]
  simp only [List.mem_map]
  constructor
  · rintro ⟨_, ⟨e, he, rfl⟩, h⟩; exact ⟨e, he, (On_mv hk v _ _ _).1 h⟩
  · rintro ⟨e, he, h⟩; exact ⟨_, ⟨e, he, rfl⟩, (On_mv hk v _ _ _).2 h⟩
theorem wZ_mv (l : List Pt) (p : Pt) : wZ (mvL k v l) (mv k v p) = wZ l p := by
  unfold wZ
  rw [edg_mv, List.map_map]
  congr 2
  funext e
  exact wnd_mv hk v p e
theorem pt_mv {l : List Pt} {i : Nat} (h : i < l.length) : pt (mvL k v l) i = mv k v (pt l i) := by
  unfold pt mvL
  rw [List.getD_eq_getElem?_getD, List.getElem?_map, List.getD_eq_getElem?_getD, List.getElem?_eq_getElem h]; rfl
theorem Simple_mv {l : List Pt} (h1 : Ok l) (h2 : Ok (mvL k v l)) : Simple (mvL k v l) ↔ Simple l := by
  have hlen := mvL_len k v l
  unfold Simple
  have e0 : (3 ≤ (mvL k v l).length ∧ Ok (mvL k v l)) ↔ (3 ≤ l.length ∧ Ok l) := by rw [hlen]; exact ⟨fun h => ⟨h.1, h1⟩, fun h => ⟨h.1, h2⟩⟩
  have e1 : Dis (mvL k v l) ↔ Dis l := by
    unfold Dis
    rw [hlen]
    constructor
    · intro h j hj i hi e
      have := h j hj i hi
      rw [show (mvL k v l).getD j (0, 0) = _ from pt_mv hk v hj, show (mvL k v l).getD i (0, 0) = _ from pt_mv hk v (show i < l.length by omega), mv_inj hk v] at this
      exact this e
    · intro h j hj i hi e
      rw [show (mvL k v l).getD j (0, 0) = _ from pt_mv hk v hj, show (mvL k v l).getD i (0, 0) = _ from pt_mv hk v (show i < l.length by omega), mv_inj hk v] at e
      exact h j hj i hi e
  have e2 : ∀ i j, i < j → j < l.length → clR (mvL k v l) i j = clR l i j := by
    intro i j hi hj
    unfold clR
    rw [hlen, pt_mv hk v (show i < l.length by omega), pt_mv hk v hj, pt_mv hk v (next_lt (show 0 < l.length by omega)), pt_mv hk v (next_lt (show 0 < l.length by omega)), cls_mv hk v]
  have e3 : Prs (mvL k v l) ↔ Prs l := by
    unfold Prs PrO
    rw [hlen]
    constructor
    · intro h j hj i hi
      rw [← e2 i j hi hj]; exact h j hj i hi
    · intro h j hj i hi
      rw [e2 i j hi hj]; exact h j hj i hi
  rw [e0, e1, e3]
end
theorem shoe_mv (k : Int) (v : Pt) (l : List Pt) : aZ (mvL k v l) = k * k * aZ l := by
  unfold aZ
  rw [edg_mv, List.map_map, ← sum_mul]
  congr 1
  by_cases h : l = []
  · subst h; rfl
  · have : 0 < l.length := List.length_pos_iff.2 h
    have e : (mvL k v l).getD 0 (0, 0) = mv k v (l.getD 0 (0, 0)) := by
      unfold mvL
      rw [List.getD_eq_getElem?_getD, List.getElem?_map, List.getD_eq_getElem?_getD, List.getElem?_eq_getElem this]; rfl
    rw [e]
    congr 1
    funext x
    exact crossZ_mv k v _ _ _
theorem area_mv {k : Int} {v : Pt} {l : List Pt} (h1 : Ok l) (h2 : Ok (mvL k v l)) : area (mvL k v l) = k * k * area l := by
  unfold area
  rw [shoe_mv, mvL_len]
  by_cases h : 3 ≤ l.length
  · rw [if_pos ⟨h, h2⟩, if_pos ⟨h, h1⟩]
  · rw [if_neg (fun h' => h h'.1), if_neg (fun h' => h h'.1), Int.mul_zero]
theorem winding_mv {k : Int} (hk : k = 1 ∨ k = 2 ∨ k = 3) (v : Pt) {l : List Pt} {p : Pt} (h1 : Ok l) (h2 : Ok (mvL k v l)) (h3 : May p) (h4 : May (mv k v p)) : winding (mvL k v l) (mv k v p) = winding l p := by
  unfold winding
  rw [if_pos ⟨h4, h2⟩, if_pos (show May p ∧ Ok l from ⟨h3, h1⟩), wZ_mv hk v]
  by_cases ho : OnR l p
  · rw [if_pos ho, if_pos ((OnR_mv hk v l p).2 ho)]
  · rw [if_neg ho, if_neg (fun h' => ho ((OnR_mv hk v l p).1 h'))]
theorem beside_mv (v : Pt) {l : List Pt} {a b : Pt} (h1 : Ok l) (h2 : Ok (mvL 1 v l)) (ha : May a) (hb : May b) (ha' : May (mv 1 v a)) (hb' : May (mv 1 v b)) : beside (mvL 1 v l) (mv 1 v a) (mv 1 v b) = beside l a b := by
  have hk : (1 : Int) = 1 ∨ (1 : Int) = 2 ∨ (1 : Int) = 3 := .inl rfl
  have hw : way (mv 1 v a) (mv 1 v b) = way a b := by unfold way mv; simp only; congr 1 <;> omega
  have hm : mid (mv 1 v a) (mv 1 v b) = ((mid a b).1 + 2 * v.1, (mid a b).2 + 2 * v.2) := by unfold mid mv; simp only; congr 1 <;> omega
  have hs : ∀ e, sdZ ((mid a b).1 + 2 * v.1, (mid a b).2 + 2 * v.2) (mvE 1 v e) = sdZ (mid a b) e := by intro e; unfold sdZ mvE mv; grind
  have hd : ∀ e : Pt × Pt, (mvE 1 v e).2.1 - (mvE 1 v e).1.1 = e.2.1 - e.1.1 ∧ (mvE 1 v e).2.2 - (mvE 1 v e).1.2 = e.2.2 - e.1.2 := by intro e; unfold mvE mv; simp only; omega
  have hH : ∀ e, Has ((mid a b).1 + 2 * v.1, (mid a b).2 + 2 * v.2) (way a b) (mvE 1 v e) ↔ Has (mid a b) (way a b) e := by
    intro e
    unfold Has
    rw [hs, (hd e).1, (hd e).2]
    unfold mvE mv
    simp only
    omega
  have hO : ∀ e : Pt × Pt, (Ovr ((mid a b).1 + 2 * v.1, (mid a b).2 + 2 * v.2) (way a b) (mvE 1 v e).1.2 ↔ Ovr (mid a b) (way a b) e.1.2) ∧ (Ovr ((mid a b).1 + 2 * v.1, (mid a b).2 + 2 * v.2) (way a b) (mvE 1 v e).2.2 ↔ Ovr (mid a b) (way a b) e.2.2) := by
    intro e
    unfold Ovr mvE mv
    simp only
    omega
  have hS : ∀ e, side ((mid a b).1 + 2 * v.1, (mid a b).2 + 2 * v.2) (way a b) (mvE 1 v e) = side (mid a b) (way a b) e := by
    intro e
    unfold side
    rw [hs, (hd e).1, (hd e).2]
  have hB : ∀ e, bsd ((mid a b).1 + 2 * v.1, (mid a b).2 + 2 * v.2) (way a b) (mvE 1 v e) = bsd (mid a b) (way a b) e := by
    intro e
    unfold bsd
    simp only [hS, (hO e).1, (hO e).2]
  have e1 : bZ (mvL 1 v l) (mv 1 v a) (mv 1 v b) = bZ l a b := by
    unfold bZ
    rw [hw, hm, edg_mv, List.map_map]
    congr 2
    funext e
    exact hB e
  have e2 : HasR (mvL 1 v l) (mv 1 v a) (mv 1 v b) ↔ HasR l a b := by
    unfold HasR
    rw [hw, hm, edg_mv]
    simp only [List.mem_map]
    constructor
    · rintro ⟨_, ⟨e, he, rfl⟩, h⟩; exact ⟨e, he, (hH e).1 h⟩
    · rintro ⟨e, he, h⟩; exact ⟨_, ⟨e, he, rfl⟩, (hH e).2 h⟩
  unfold beside
  rw [e1]
  by_cases hab : a = b
  · rw [if_neg (fun h => h.1 ((mv_inj hk v a b).2 hab)), if_neg (fun h => h.1 hab)]
  · rw [if_pos ⟨fun h => hab ((mv_inj hk v a b).1 h), ha', hb', h2⟩, if_pos (show ¬ a = b ∧ May a ∧ May b ∧ Ok l from ⟨hab, ha, hb, h1⟩)]
    by_cases ho : HasR l a b
    · rw [if_pos ho, if_pos (e2.2 ho)]
    · rw [if_neg ho, if_neg (fun h' => ho (e2.1 h'))]
/-! ### the program's moving -/
theorem take_set {l : List Pt} {k : Nat} {x : Pt} {f : Pt → Pt} (h : k < l.length) (hx : x = f (l.getD k (0, 0))) : ((l.take k).map f ++ l.drop k).set k x = (l.take (k + 1)).map f ++ l.drop (k + 1) := by
  have hl : ((l.take k).map f).length = k := by rw [List.length_map, List.length_take]; omega
  rw [snoc_take (0, 0) h, List.map_append, drop_cons (0, 0) h, List.set_append_right _ _ (by omega), hl, Nat.sub_self, List.append_assoc, hx]
  rfl
def Sm (p : Pt) : Prop := (-1048576 ≤ p.1 ∧ p.1 ≤ 1048576) ∧ -1048576 ≤ p.2 ∧ p.2 ≤ 1048576
instance (p : Pt) : Decidable (Sm p) := by unfold Sm; infer_instance
theorem half_len {l : List Pt} {k : Nat} {f : Pt → Pt} (h : k ≤ l.length) : ((l.take k).map f ++ l.drop k).length = l.length := by
  rw [List.length_append, List.length_map, List.length_take, List.length_drop]; omega
theorem Moved_eq {l : List Pt} {v : Pt} (hn : l.length ≤ 1000000) (hl : ∀ p ∈ l, Sm p) (hv : Sm v) : ring_Moved l v = some (mvL 1 v l) := by
  unfold ring_Moved ring_each_Moved_1 ring_each_Moved_1_l1
  rw [Clone_eq l hn, bind_some']
  have := loopO_nat (body := fun s => ring_each_Moved_1_b1 l v s.1 s.2) (fun k => ((l.take k).map (mv 1 v) ++ l.drop k, (k : Int))) l.length (mvL 1 v l) (fun k hk => by
    unfold ring_each_Moved_1_b1
    simp only
    have hs := hl _ (getD_mem (d := ((0, 0) : Pt)) hk)
    have hh := half_len (f := mv 1 v) (l := l) (k := k) (by omega)
    rw [decide_eq_true (show (k : Int) < (l.length : Int) by omega), if_pos rfl, ix_getD (0, 0) hk, bind_some']
    have hm : ring_Moved_1 (l.getD k (0, 0)) v = some (mv 1 v (l.getD k (0, 0))) := by
      unfold ring_Moved_1 mv
      unfold Sm at hs hv
      rw [ad_in (by omega), ad_in (by omega), Int.one_mul, Int.one_mul]
    rw [hm, bind_some', ix_getD (0, 0) (show k < ((l.take k).map (mv 1 v) ++ l.drop k).length by omega), bind_some', put_nat (by omega), bind_some', take_set hk rfl, ad_one (by omega)]) (by
    unfold ring_each_Moved_1_b1
    simp only
    rw [decide_eq_false (by omega), if_neg Bool.false_ne_true, List.take_length, List.drop_length, List.append_nil]; rfl)
  rw [List.take_zero, List.map_nil, List.drop_zero, List.nil_append] at this
  rw [show loopO (fun s => ring_each_Moved_1_b1 l v s.1 s.2) (l, 0) = _ from this, bind_some']
theorem Scaled_eq {l : List Pt} {k : Int} (hk : k = 1 ∨ k = 2 ∨ k = 3) (hn : l.length ≤ 1000000) (hl : ∀ p ∈ l, Sm p) : ring_Scaled l k = some (mvL k (0, 0) l) := by
  unfold ring_Scaled ring_each_Scaled_1 ring_each_Scaled_1_l1
  rw [Clone_eq l hn, bind_some']
  have := loopO_nat (body := fun s => ring_each_Scaled_1_b1 l k s.1 s.2) (fun i => ((l.take i).map (mv k (0, 0)) ++ l.drop i, (i : Int))) l.length (mvL k (0, 0) l) (fun i hi => by
    unfold ring_each_Scaled_1_b1
    simp only
    have hs := hl _ (getD_mem (d := ((0, 0) : Pt)) hi)
    have hh := half_len (f := mv k (0, 0)) (l := l) (k := i) (by omega)
    rw [decide_eq_true (show (i : Int) < (l.length : Int) by omega), if_pos rfl, ix_getD (0, 0) hi, bind_some']
    have hm : ring_Scaled_1 (l.getD i (0, 0)) k = some (mv k (0, 0) (l.getD i (0, 0))) := by
      unfold ring_Scaled_1 mv
      unfold Sm at hs
      rw [ml_in (by rcases hk with rfl | rfl | rfl <;> omega), ml_in (by rcases hk with rfl | rfl | rfl <;> omega), Int.add_zero, Int.add_zero]
    rw [hm, bind_some', ix_getD (0, 0) (show i < ((l.take i).map (mv k (0, 0)) ++ l.drop i).length by omega), bind_some', put_nat (by omega), bind_some', take_set hi rfl, ad_one (by omega)]) (by
    unfold ring_each_Scaled_1_b1
    simp only
    rw [decide_eq_false (by omega), if_neg Bool.false_ne_true, List.take_length, List.drop_length, List.append_nil]; rfl)
  rw [List.take_zero, List.map_nil, List.drop_zero, List.nil_append] at this
  rw [show loopO (fun s => ring_each_Scaled_1_b1 l k s.1 s.2) (l, 0) = _ from this, bind_some']
theorem area_bd' {l : List Pt} (hn : l.length ≤ 40) : -90071992547409920 ≤ area l ∧ area l ≤ 90071992547409920 := by
  unfold area
  split
  · rename_i h
    rw [aZ_shoe]
    have hl := edg_len l
    have := sum_bd (f := fun e : Pt × Pt => e.1.1 * e.2.2 - e.2.1 * e.1.2) (W := 2251799813685248) (by omega) (edg l) (fun e he => shoe_bd (Ok_edg h.2 he).1 (Ok_edg h.2 he).2)
    unfold shoe
    omega
  · omega
theorem Sm_May {p : Pt} (h : Sm p) : May p := by unfold Sm at h; unfold May; omega
theorem Sm_mv {p v : Pt} {k : Int} (hk : k = 1 ∨ k = 2 ∨ k = 3) (h : Sm p) (hv : Sm v) : May (mv k v p) := by
  unfold Sm at h hv; unfold May mv; simp only
  rcases hk with rfl | rfl | rfl <;> omega
theorem law03_RingMoves_true (x0 : List (Int × Int)) (x1 : Int × Int) (x2 : Int × Int) (x3 : Int × Int) (x4 : Int × Int) (x5 : Int) (k0 : ∀ y2 ∈ x0, I64 y2.1 ∧ I64 y2.2) (k1 : I64 x1.1 ∧ I64 x1.2) (k2 : I64 x2.1 ∧ I64 x2.2) (k3 : I64 x3.1 ∧ I64 x3.2) (k4 : I64 x4.1 ∧ I64 x4.2) (k5 : I64 x5) : law03_RingMoves x0 x1 x2 x3 x4 x5 = some true := by
  unfold law03_RingMoves
  have hn := take40 x0
  rw [Cut_eq, bind_some']
  generalize x0.take 40 = l at hn
  obtain ⟨d, hd, hdk⟩ : ∃ d, rmK (IntKind.u64.wrap x5) 2 = some d ∧ (d = 0 ∨ d = 1) := by
    have hw : 0 ≤ IntKind.u64.wrap x5 := by rw [show IntKind.u64.wrap x5 = x5 % 18446744073709551616 by simp [IntKind.wrap, IntKind.bits, IntKind.signed]]; omega
    refine ⟨_, rfl, ?_⟩
    rw [Int.tmod_eq_emod_of_nonneg hw]
    omega
  have hK : ad 2 (IntKind.i64.wrap d) = 2 ∨ ad 2 (IntKind.i64.wrap d) = 3 := by
    rcases hdk with rfl | rfl
    · left; rfl
    · right; rfl
  rw [hd, bind_some', app_at (by simp [capB]; omega), bind_some', List.nil_append, app_at (by simp [capB]; omega), bind_some']
  unfold law03_RingMoves_l1
  have hlen : (l ++ [x1, x2, x3, x4]).length ≤ 100 := by rw [List.length_append]; simp only [List.length_cons, List.length_nil]; omega
  have hb : ∀ k, k < (l ++ [x1, x2, x3, x4]).length → law03_RingMoves_b1 x1 x2 x3 x4 l d (l ++ [x1, x2, x3, x4]) (k : Int) = some (if Sm ((l ++ [x1, x2, x3, x4]).getD k (0, 0)) then .inl ((k + 1 : Nat) : Int) else .inr true) := by
    intro k hk
    unfold law03_RingMoves_b1
    rw [decide_eq_true (show (k : Int) < ((l ++ [x1, x2, x3, x4]).length : Int) by omega), if_pos rfl, ix_getD (0, 0) hk, ad_one (by omega), known03]
    simp only [bind_some', mx_eq, mn_eq]
    generalize (l ++ [x1, x2, x3, x4]).getD k (0, 0) = p
    by_cases h1 : 1048576 < max p.1 p.2
    · rw [decide_eq_true h1, if_neg (show ¬ Sm p by unfold Sm; omega)]; rfl
    · rw [decide_eq_false h1]
      simp only [Bool.not_false, gd_true, bind_some', Bool.false_or]
      by_cases h2 : min p.1 p.2 < -1048576
      · rw [decide_eq_true h2, if_neg (show ¬ Sm p by unfold Sm; omega)]; rfl
      · rw [decide_eq_false h2, if_pos (show Sm p by unfold Sm; omega)]; rfl
  have hfin : (∀ p ∈ l ++ [x1, x2, x3, x4], Sm p) → law03_RingMoves_b1 x1 x2 x3 x4 l d (l ++ [x1, x2, x3, x4]) ((l ++ [x1, x2, x3, x4]).length : Int) = some (.inr true) := by
    intro hs
    have hl : ∀ p ∈ l, Sm p := fun p hp => hs p (by simp [hp])
    have s1 : Sm x1 := hs _ (by simp)
    have s2 : Sm x2 := hs _ (by simp)
    have s3 : Sm x3 := hs _ (by simp)
    have s4 : Sm x4 := hs _ (by simp)
    have s0 : Sm (0, 0) := by unfold Sm; simp only; omega
    have o1 : Ok l := fun p hp => Sm_May (hl p hp)
    have o2 : Ok (mvL 1 x4 l) := fun p hp => by
      obtain ⟨q, hq, rfl⟩ := List.mem_map.1 hp
      exact Sm_mv (.inl rfl) (hl q hq) s4
    unfold law03_RingMoves_b1
    generalize ad 2 (IntKind.i64.wrap d) = K at hK
    have hK' : K = 1 ∨ K = 2 ∨ K = 3 := .inr hK
    have o3 : Ok (mvL K (0, 0) l) := fun p hp => by
      obtain ⟨q, hq, rfl⟩ := List.mem_map.1 hp
      exact Sm_mv hK' (hl q hq) s0
    have n2 := mvL_len 1 x4 l
    have n3 := mvL_len K (0, 0) l
    have m1 : ∀ p, Sm p → law03_moved p x4 = some (mv 1 x4 p) := by
      intro p hp
      unfold law03_moved mv
      unfold Sm at hp s4
      rw [ad_in (by omega), ad_in (by omega), Int.one_mul, Int.one_mul]
    have m2 : (ml K x1.1, ml K x1.2) = mv K (0, 0) x1 := by
      unfold mv
      unfold Sm at s1
      rw [ml_in (by rcases hK with rfl | rfl <;> omega), ml_in (by rcases hK with rfl | rfl <;> omega), Int.add_zero, Int.add_zero]
    have hd1 : decide (Simple (mvL 1 x4 l)) = decide (Simple l) := by rw [Bool.eq_iff_iff]; simp only [decide_eq_true_eq]; exact Simple_mv (.inl rfl) x4 o1 o2
    have hd2 : decide (Simple (mvL K (0, 0) l)) = decide (Simple l) := by rw [Bool.eq_iff_iff]; simp only [decide_eq_true_eq]; exact Simple_mv hK' (0, 0) o1 o3
    have ab := area_bd' (l := l) (by omega)
    have aK : ml (ml K K) (area l) = K * K * area l := by
      rcases hK with rfl | rfl
      · rw [show ml 2 2 = 4 from rfl, ml_in (by omega)]; rfl
      · rw [show ml 3 3 = 9 from rfl, ml_in (by omega)]; rfl
    rw [decide_eq_false (by omega), if_neg Bool.false_ne_true, Moved_eq (by omega) hl s4, bind_some', Scaled_eq hK' (by omega) hl, bind_some', bind_some', n2, n3]
    rw [decide_eq_true rfl]
    simp only [Bool.not_true, Bool.or_false, Bool.false_eq_true, if_false, bind_some', m1 x1 s1, m1 x2 s2, m1 x3 s3, m2]
    rw [Winding_eq _ (by omega), Winding_eq _ (by omega), Winding_eq _ (by omega), Beside_eq _ _ (by omega), Beside_eq _ _ (by omega), Area_eq (by omega), Area_eq (by omega), Area_eq (by omega), Simple_eq (by omega), Simple_eq (by omega), Simple_eq (by omega), known03, hd1, hd2, area_mv o1 o2, area_mv o1 o3, winding_mv (.inl rfl) x4 o1 o2 (Sm_May s1) (Sm_mv (.inl rfl) s1 s4), winding_mv hK' (0, 0) o1 o3 (Sm_May s1) (Sm_mv hK' s1 s0), beside_mv x4 o1 o2 (Sm_May s2) (Sm_May s3) (Sm_mv (.inl rfl) s2 s4) (Sm_mv (.inl rfl) s3 s4)]
    simp only [bind_some', gd_true, Int.mul_one, Int.one_mul, aK, decide_true, Bool.and_true, beq_self_eq_true]
    rfl
  by_cases hs : ∀ p ∈ l ++ [x1, x2, x3, x4], Sm p
  · exact loopO_nat (body := fun s => law03_RingMoves_b1 x1 x2 x3 x4 l d (l ++ [x1, x2, x3, x4]) s) (fun k => (k : Int)) (l ++ [x1, x2, x3, x4]).length true (fun k hk => by
      simp only [hb k hk, if_pos (hs _ (getD_mem (d := ((0, 0) : Pt)) hk))]) (hfin hs)
  · refine loopO_bad (body := fun s => law03_RingMoves_b1 x1 x2 x3 x4 l d (l ++ [x1, x2, x3, x4]) s) (fun k => (k : Int)) (l ++ [x1, x2, x3, x4]).length (fun k => Sm ((l ++ [x1, x2, x3, x4]).getD k (0, 0))) true (fun k hk ho => by simp only [hb k hk, if_pos ho]) (fun k hk ho => by simp only [hb k hk, if_neg ho]) (Classical.byContradiction fun hc => hs fun p hp => ?_)
    obtain ⟨i, hi, rfl⟩ := mem_getD (d := ((0, 0) : Pt)) hp
    exact Classical.byContradiction fun h => hc ⟨i, hi, h⟩
end Go.Proofs.Ythkmkmkcnljmaaa.Pl
