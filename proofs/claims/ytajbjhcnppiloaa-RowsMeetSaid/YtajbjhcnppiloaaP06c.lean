/-
  Chapter 06, plainly: pairs, single boxes, the example; a nil index; an index that grew. No program in sight.
-/
import Derived.Test.YtajbjhcnppiloaaP06b
namespace Go.Proofs.Ytajbjhcnppiloaa.Pl
set_option maxRecDepth 4000

def rowP (l : List Bx) (i : Nat) : List (Int × Int) := ((fnd l (l.getD i default)).filter fun k => decide ((i : Int) < k)).map fun k => ((i : Int), k)
def prs (l : List Bx) : List (Int × Int) := (List.range l.length).flatMap (rowP l)
theorem rowP_len (l : List Bx) (i : Nat) : (rowP l i).length ≤ l.length := by
  unfold rowP
  rw [List.length_map]
  have h1 := List.length_filter_le (fun k => decide ((i : Int) < k)) (fnd l (l.getD i default))
  have h2 := fnd_len l (l.getD i default)
  omega
theorem pairs_l2 (l : List Bx) (hn : l.length ≤ 40) (i : Nat) (out : List (Int × Int)) (ho : out.length ≤ 900000) (hi : i < 1000) : rows_Index_Pairs_l2 (i : Int) (fnd l (l.getD i default)) (out, 0) = some (.inl (out ++ rowP l i, ((i + 1 : Nat) : Int))) := by
  have hfl := fnd_len l (l.getD i default)
  have := loopO_nat (body := fun s => rows_Index_Pairs_b2 (i : Int) (fnd l (l.getD i default)) s.1 s.2) (fun k => (out ++ (((fnd l (l.getD i default)).take k).filter fun k => decide ((i : Int) < k)).map fun k => ((i : Int), k), (k : Int))) (fnd l (l.getD i default)).length (.inl (out ++ rowP l i, ((i + 1 : Nat) : Int))) (fun k hk => by
    dsimp only
    have hlen : ((((fnd l (l.getD i default)).take k).filter fun k => decide ((i : Int) < k)).map fun k => ((i : Int), k)).length ≤ k := by
      rw [List.length_map]
      have := List.length_filter_le (fun k => decide ((i : Int) < k)) ((fnd l (l.getD i default)).take k)
      rw [List.length_take] at this; omega
    unfold rows_Index_Pairs_b2
    rw [dlt hk, if_pos rfl, ix_getD 0 hk, bind_some', snoc_take 0 hk, List.filter_append, List.map_append]
    by_cases hM : (i : Int) < (fnd l (l.getD i default)).getD k 0
    · rw [decide_eq_true hM, if_pos rfl, app_le (by simp only [List.length_append, List.length_cons, List.length_nil]; omega), bind_some']
      unfold rows_Index_Pairs_k3
      rw [ad_one (by omega), List.filter_cons_of_pos (by simpa using hM), List.filter_nil, List.append_assoc]; rfl
    · rw [decide_eq_false hM, if_neg (by decide)]
      unfold rows_Index_Pairs_k3
      rw [ad_one (by omega), List.filter_cons_of_neg (by simpa using hM), List.filter_nil, List.map_nil, List.append_nil]) (by
    dsimp only
    unfold rows_Index_Pairs_b2
    rw [dnlt (Nat.lt_irrefl _), if_neg (by decide), List.take_length, ad_one (by omega)]; rfl)
  simpa [rows_Index_Pairs_l2] using this
theorem flat_le {α β : Type} (f : α → List β) (c : Nat) (h : ∀ x, (f x).length ≤ c) : ∀ l : List α, (l.flatMap f).length ≤ c * l.length
  | [] => by simp
  | x :: l => by
    have := flat_le f c h l
    have := h x
    rw [List.flatMap_cons, List.length_append, List.length_cons, Nat.mul_add]; omega
theorem Pairs_eq {x : Idx} {l : List Bx} (hx : Inv x l) (hn : l.length ≤ 40) : rows_Index_Pairs x = some (prs l) := by
  have := loopO_nat (body := fun s => rows_Index_Pairs_b1 x s.1 s.2) (fun k => ((List.range k).flatMap (rowP l), (k : Int))) l.length (prs l) (fun k hk => by
    dsimp only
    have hlen := flat_le (rowP l) 40 (fun i => by have := rowP_len l i; omega) (List.range k)
    rw [List.length_range] at hlen
    unfold rows_Index_Pairs_b1
    rw [hx.all, dlt hk, if_pos rfl, ix_getD default hk, bind_some', Find_eq hx hn, bind_some', pairs_l2 l hn k _ (by omega) (by omega), List.range_succ, List.flatMap_append]
    simp) (by
    dsimp only
    unfold rows_Index_Pairs_b1
    rw [hx.all, dnlt (Nat.lt_irrefl _), if_neg (by decide)]; rfl)
  simpa [rows_Index_Pairs, rows_Index_Pairs_l1] using this
theorem At_eq {x : Idx} {l : List Bx} (hx : Inv x l) (hn : l.length ≤ 40) (p : Pt) : rows_Index_At x p = some (fnd l (p, p)) := by
  unfold rows_Index_At
  rw [Find_eq hx hn]; rfl
theorem known06 : law06_known = some true := by
  unfold law06_known
  rw [New_eq _ (by simp), bind_some', Pairs_eq (ofL_inv _) (by simp), bind_some', At_eq (ofL_inv _) (by simp), bind_some']
  have e1 : prs [((0, 0), (2, 2)), ((2, 2), (3, 3)), ((5, 0), (6, 1))] = [(0, 1)] := by decide
  have e2 : fnd [((0, 0), (2, 2)), ((2, 2), (3, 3)), ((5, 0), (6, 1))] ((2, 2), (2, 2)) = [0, 1] := by decide
  rw [e1, e2]
  unfold rows_Index_Len
  rw [(ofL_inv _).all]
  simp [ix]
theorem law06_RowsNil_true (x0 : (Int × Int) × Int × Int) (x1 : Int × Int) (x2 : Int) (k0 : (I64 x0.1.1 ∧ I64 x0.1.2) ∧ (I64 x0.2.1 ∧ I64 x0.2.2)) (k1 : I64 x1.1 ∧ I64 x1.2) (k2 : I64 x2) : law06_RowsNil x0 x1 x2 = some true := by
  unfold law06_RowsNil rows_Index_Box_nil rows_Index_At_nil rows_Index_Find_nil
  have h : (decide (x2 < 0) || decide (0 ≤ x2)) = true := by simp; omega
  rw [h, bind_some', if_pos rfl, bind_some', known06, bind_some']
  simp

/-! ### an index that grew -/
def sumN (f : Nat → Nat) : Nat → Nat
  | 0 => 0
  | n + 1 => sumN f n + f n
theorem sumN_succ (f : Nat → Nat) (n : Nat) : sumN f (n + 1) = sumN f n + f n := rfl
theorem sumN_congr {f g : Nat → Nat} : ∀ {n : Nat}, (∀ i, i < n → f i = g i) → sumN f n = sumN g n
  | 0, _ => rfl
  | n + 1, h => by rw [sumN_succ, sumN_succ, sumN_congr fun i hi => h i (by omega), h n (by omega)]
theorem sumN_add (f g : Nat → Nat) : ∀ n : Nat, sumN (fun i => f i + g i) n = sumN f n + sumN g n
  | 0 => rfl
  | n + 1 => by rw [sumN_succ, sumN_succ, sumN_succ, sumN_add f g n]; omega
theorem sumN_swap (f : Nat → Nat → Nat) : ∀ n m : Nat, sumN (fun i => sumN (fun k => f i k) m) n = sumN (fun k => sumN (fun i => f i k) n) m
  | 0, m => by
    induction m with
    | zero => rfl
    | succ m ih => rw [sumN_succ, ← ih]; rfl
  | n + 1, m => by
    have := sumN_swap f n m
    show sumN (fun i => sumN (fun k => f i k) m) n + sumN (fun k => f n k) m = sumN (fun k => sumN (fun i => f i k) n + f n k) m
    rw [this, sumN_add]
theorem filter_sum (p : Nat → Bool) : ∀ n : Nat, ((List.range n).filter p).length = sumN (fun i => if p i then 1 else 0) n
  | 0 => rfl
  | n + 1 => by
    rw [List.range_succ, List.filter_append, List.length_append, filter_sum p n, sumN_succ]
    congr 1
    cases h : p n with
    | true => rw [List.filter_cons_of_pos h]; rfl
    | false => rw [List.filter_cons_of_neg (by rw [h]; decide)]; rfl
theorem flat_sum {β : Type} (f : Nat → List β) : ∀ n : Nat, ((List.range n).flatMap f).length = sumN (fun i => (f i).length) n
  | 0 => rfl
  | n + 1 => by
    rw [List.range_succ, List.flatMap_append, List.length_append, flat_sum f n, sumN_succ]
    simp
theorem Mt_sym {a b : Bx} : Mt a b ↔ Mt b a := by unfold Mt; constructor <;> (rintro ⟨h1, h2, h3, h4, h5, h6⟩; exact ⟨h2, h1, h4, h3, h6, h5⟩)
theorem Mt_self {a : Bx} : Mt a a ↔ RB a := by
  constructor
  · exact fun h => h.1
  · intro h; exact ⟨h, h, h.2.2.1, h.2.2.1, h.2.2.2, h.2.2.2⟩
section
variable (l : List Bx)
def bx (i : Nat) : Bx := l.getD i default
def lo (i : Nat) : Nat := sumN (fun k => if k < i ∧ Mt (bx l i) (bx l k) then 1 else 0) l.length
def hi (i : Nat) : Nat := sumN (fun k => if i < k ∧ Mt (bx l i) (bx l k) then 1 else 0) l.length
theorem lo_hi : sumN (lo l) l.length = sumN (hi l) l.length := by
  unfold lo hi
  rw [sumN_swap (fun i k => if k < i ∧ Mt (bx l i) (bx l k) then 1 else 0)]
  refine sumN_congr fun k _ => sumN_congr fun i _ => ?_
  simp only [Mt_sym (a := bx l i)]
theorem fnd_count (i : Nat) (hi' : i < l.length) : (fnd l (bx l i)).length = lo l i + hi l i + (if RB (bx l i) then 1 else 0) := by
  unfold fnd lo hi
  rw [List.length_map, filter_sum]
  have h1 : ∀ n, sumN (fun k => if k = i ∧ Mt (bx l i) (bx l k) then 1 else 0) n = if i < n then (if RB (bx l i) then 1 else 0) else 0 := by
    intro n
    induction n with
    | zero => rfl
    | succ n ih =>
      rw [sumN_succ, ih]
      rcases Nat.lt_trichotomy i n with h | h | h
      · rw [if_pos h, if_pos (show i < n + 1 by omega), if_neg (show ¬ (n = i ∧ Mt (bx l i) (bx l n)) from fun q => by have := q.1; omega), Nat.add_zero]
      · subst h
        rw [if_neg (Nat.lt_irrefl _), if_pos (Nat.lt_succ_self _), Nat.zero_add]
        by_cases hr : RB (bx l i)
        · rw [if_pos hr, if_pos ⟨rfl, Mt_self.2 hr⟩]
        · rw [if_neg hr, if_neg fun q => hr q.2.1]
      · rw [if_neg (show ¬ i < n by omega), if_neg (show ¬ i < n + 1 by omega), if_neg (show ¬ (n = i ∧ Mt (bx l i) (bx l n)) from fun q => by have := q.1; omega)]
  have h2 := h1 l.length
  rw [if_pos hi'] at h2
  rw [← h2, ← sumN_add, ← sumN_add]
  refine sumN_congr fun k _ => ?_
  show (if decide (Mt (bx l i) (bx l k)) = true then 1 else 0) = _
  by_cases hM : Mt (bx l i) (bx l k)
  · rcases Nat.lt_trichotomy k i with h | h | h
    · simp [hM, h, Nat.not_lt_of_lt h, Nat.ne_of_lt h]
    · simp [hM, h]
    · simp [hM, h, Nat.not_lt_of_lt h, Nat.ne_of_gt h]
  · simp [hM]
theorem prs_count : (prs l).length = sumN (hi l) l.length := by
  unfold prs
  rw [flat_sum]
  refine sumN_congr fun i _ => ?_
  unfold rowP fnd hi
  rw [List.length_map, List.filter_map, List.length_map, List.filter_filter, filter_sum]
  refine sumN_congr fun k _ => ?_
  by_cases h1 : i < k <;> by_cases h2 : Mt (l.getD i default) (l.getD k default) <;> simp [h1, h2, bx]
theorem prs_mem {p : Int × Int} (h : p ∈ prs l) : ∃ i k : Nat, p = ((i : Int), (k : Int)) ∧ i < l.length ∧ k < l.length ∧ Mt (bx l i) (bx l k) := by
  unfold prs rowP at h
  simp only [List.mem_flatMap, List.mem_range, List.mem_map, List.mem_filter] at h
  obtain ⟨i, hi, k, ⟨hk, _⟩, rfl⟩ := h
  obtain ⟨j, rfl, h1, h2⟩ := mem_fnd.1 hk
  exact ⟨i, j, rfl, hi, h1, h2⟩
end
theorem grow_l3 (l : List Bx) (hn : l.length ≤ 40) : law06_RowsGrow_l3 l (ofL l) (prs l) (0, 0) = some true := by
  have hb : ∀ k, k ≤ l.length → sumN (fun i => lo l i + hi l i) k ≤ 40 * k := fun k => by
    induction k with
    | zero => intro _; exact Nat.le_refl _
    | succ k ih =>
      intro hk
      have h1 := fnd_count l k (by omega)
      have h2 := fnd_len l (bx l k)
      have h3 := ih (by omega)
      rw [sumN_succ]
      omega
  have := loopO_nat (body := fun s => law06_RowsGrow_b3 l (ofL l) (prs l) s.1 s.2) (fun k => (((sumN (fun i => lo l i + hi l i) k : Nat) : Int), (k : Int))) l.length true (fun k hk => by
    dsimp only
    have h1 := fnd_count l k hk
    have h2 := fnd_len l (bx l k)
    have h3 := hb k (by omega)
    unfold law06_RowsGrow_b3 law06_RowsGrow_k4
    rw [dlt hk, if_pos rfl, ix_getD default hk, bind_some', Find_eq (ofL_inv l) hn, bind_some', bind_some', rowsRight_eq, bind_some', ad_one (by omega)]
    show (if decide (RB (bx l k)) = true then some (Sum.inl (sb (ad _ ((fnd l (bx l k)).length : Int)) 1, _)) else some (Sum.inl (ad _ ((fnd l (bx l k)).length : Int), _))) = _
    rw [ad_in (by omega)]
    have e : sumN (fun i => lo l i + hi l i) (k + 1) = sumN (fun i => lo l i + hi l i) k + (lo l k + hi l k) := rfl
    by_cases hr : RB (bx l k)
    · rw [if_pos hr] at h1
      rw [decide_eq_true hr, if_pos rfl, sb_in (by omega), e, h1]
      congr 3; omega
    · rw [if_neg hr] at h1
      rw [decide_eq_false hr, if_neg (by decide), e, h1]
      congr 3) (by
    dsimp only
    unfold law06_RowsGrow_b3
    have h1 : sumN (fun i => lo l i + hi l i) l.length = 2 * (prs l).length := by rw [sumN_add, lo_hi, prs_count]; omega
    have h2 := hb l.length (Nat.le_refl _)
    rw [dnlt (Nat.lt_irrefl _), if_neg (by decide), known06, bind_some', h1, ml_in (by omega), decide_eq_true (by omega)]; rfl)
  simpa [law06_RowsGrow_l3, sumN] using this
theorem grow_l2 (l : List Bx) (hn : l.length ≤ 40) : law06_RowsGrow_l2 l (ofL l) (prs l) (prs l) 0 = some true := by
  have hlen : (prs l).length ≤ 1600 := by
    have := flat_le (rowP l) 40 (fun i => by have := rowP_len l i; omega) (List.range l.length)
    rw [List.length_range] at this
    unfold prs; omega
  have := loopO_nat (body := fun s => law06_RowsGrow_b2 l (ofL l) (prs l) (prs l) s) (fun k => (k : Int)) (prs l).length true (fun k hk => by
    obtain ⟨i, j, e, h1, h2, h3⟩ := prs_mem l (getD_mem (d := (0, 0)) hk)
    unfold law06_RowsGrow_b2
    rw [dlt hk, if_pos rfl, ix_getD (0, 0) hk, bind_some', bind_some', decide_eq_true rfl, e]
    simp only [Bool.not_true, Bool.not_false, gd_true, bind_some', Bool.false_or]
    rw [ix_getD default h1, bind_some', ix_getD default h2, bind_some', rowsMeet_eq, bind_some']
    rw [decide_eq_true (show Mt (l.getD i default) (l.getD j default) from h3), if_neg (by decide), ad_one (by omega)]) (by
    unfold law06_RowsGrow_b2
    rw [dnlt (Nat.lt_irrefl _), if_neg (by decide), grow_l3 l hn]; rfl)
  simpa [law06_RowsGrow_l2] using this
theorem take_cut (l : List Bx) (c : Nat) (hc : c ≤ 100) : cut l 0 (mn (l.length : Int) (c : Int)) = some (l.take c) := by
  have e : mn (l.length : Int) (c : Int) = ((min l.length c : Nat) : Int) := by rw [mn_eq]; omega
  rw [e, cut_to (by omega)]
  congr 1
  by_cases h : l.length ≤ c
  · rw [Nat.min_eq_left h, List.take_of_length_le (Nat.le_refl _), List.take_of_length_le h]
  · rw [Nat.min_eq_right (by omega)]
theorem law06_RowsGrow_true (x0 : List ((Int × Int) × Int × Int)) (x1 : (Int × Int) × Int × Int) (k0 : ∀ y2 ∈ x0, (I64 y2.1.1 ∧ I64 y2.1.2) ∧ (I64 y2.2.1 ∧ I64 y2.2.2)) (k1 : (I64 x1.1.1 ∧ I64 x1.1.2) ∧ (I64 x1.2.1 ∧ I64 x1.2.2)) : law06_RowsGrow x0 x1 = some true := by
  unfold law06_RowsGrow
  rw [show (30 : Int) = ((30 : Nat) : Int) from rfl, take_cut x0 30 (by decide), bind_some']
  have hn : (x0.take 30).length ≤ 30 := by rw [List.length_take]; omega
  generalize x0.take 30 = l at hn ⊢
  rw [New_eq l (by omega), bind_some', New_eq [] (by simp), bind_some']
  have hplen : (prs l).length ≤ 1600 := by
    have := flat_le (rowP l) 40 (fun i => by have := rowP_len l i; omega) (List.range l.length)
    rw [List.length_range] at this
    unfold prs; omega
  have := loopO_nat (body := fun s => law06_RowsGrow_b1 x1 l (ofL l) s.1 s.2.1 s.2.2.1 s.2.2.2) (fun k => ((ofL (l.take k)).1, (ofL (l.take k)).2.1, (ofL (l.take k)).2.2, (k : Int))) l.length true (fun k hk => by
    dsimp only
    have hI := ofL_inv (l.take k)
    have hlt : (l.take k).length = k := by rw [List.length_take]; omega
    unfold law06_RowsGrow_b1
    rw [dlt hk, if_pos rfl, ix_getD default hk, bind_some']
    show (rows_Index_Add (ofL (l.take k)) [l.getD k default]).bind _ = _
    rw [Add_eq hI _ (by rw [hlt]; simp; omega), bind_some']
    have e1 : build (ofL (l.take k)) [l.getD k default] = ofL (l.take (k + 1)) := by
      unfold ofL
      rw [build_app, ← snoc_take default hk]
    have e2 : (ofL (l.take (k + 1))).1.length = k + 1 := by rw [(ofL_inv _).all, List.length_take]; omega
    rw [e1, e2, ad_one (by omega), decide_eq_true rfl, if_neg (by decide)]) (by
    dsimp only
    unfold law06_RowsGrow_b1
    rw [dnlt (Nat.lt_irrefl _), if_neg (by decide), List.take_length]
    show Option.map Sum.inr ((rows_Index_Pairs (ofL l)).bind fun r544 => (rows_Index_Pairs (ofL l)).bind fun r547 => (gd (!(!decide ((r544.length : Int) = (r547.length : Int)))) (rows_Index_Find (ofL l) x1) []).bind fun r552 => (gd (!(!decide ((r544.length : Int) = (r547.length : Int)))) (rows_Index_Find (ofL l) x1) []).bind fun r555 => (gd (!(!decide ((r544.length : Int) = (r547.length : Int)))) (law04_Ints r552 r555) false).bind fun r558 => (some ((!decide ((r544.length : Int) = (r547.length : Int))) || (!r558))).bind fun x559 => if x559 then (some false) else (law06_RowsGrow_l2 l (ofL l) r544 r547 0)) = _
    have hf := fnd_len l x1
    rw [Pairs_eq (ofL_inv l) (by omega), bind_some', bind_some', Find_eq (ofL_inv l) (by omega), decide_eq_true rfl]
    simp only [Bool.not_true, Bool.not_false, gd_true, bind_some', Bool.false_or]
    rw [Ints_eq _ _ (by omega) (by omega), bind_some', decide_eq_true rfl, if_neg (by decide), grow_l2 l (by omega)]; rfl)
  rw [show l.take 0 = [] from rfl] at this
  exact this
end Go.Proofs.Ytajbjhcnppiloaa.Pl
