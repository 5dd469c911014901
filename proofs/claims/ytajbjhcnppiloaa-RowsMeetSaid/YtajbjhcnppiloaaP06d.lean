/-
  Chapter 06, plainly: those that meet a box, a point, one another; which boxes may be, and meet. No program in sight.
-/
import Derived.Test.YtajbjhcnppiloaaP06c
namespace Go.Proofs.Ytajbjhcnppiloaa.Pl
set_option maxRecDepth 4000

theorem u64_w (n : Int) : IntKind.u64.wrap n = n % 18446744073709551616 := by simp [IntKind.wrap, IntKind.bits, IntKind.signed]
theorem rm_mod (x : Int) (b : Nat) (hb : 0 < b) : ∃ k : Nat, k < b ∧ rmK (IntKind.u64.wrap x) (b : Int) = some (k : Int) := by
  refine ⟨((x % 18446744073709551616) % (b : Int)).toNat, ?_, ?_⟩
  · have := Int.emod_lt_of_pos (x % 18446744073709551616) (show (0 : Int) < b by omega)
    have := Int.emod_nonneg (x % 18446744073709551616) (show (b : Int) ≠ 0 by omega)
    omega
  · unfold rmK
    rw [if_neg (by omega), u64_w]
    have h0 : 0 ≤ x % 18446744073709551616 := by omega
    have := Int.emod_nonneg (x % 18446744073709551616) (show (b : Int) ≠ 0 by omega)
    rw [Int.tmod_eq_emod_of_nonneg h0]
    congr 1; omega
theorem of_eq (b : Bx) : law06_of b = some b := rfl
theorem Len_eq {x : Idx} {l : List Bx} (hx : Inv x l) : rows_Index_Len x = some (l.length : Int) := by unfold rows_Index_Len; rw [hx.all]
theorem Box_eq {x : Idx} {l : List Bx} (hx : Inv x l) (i : Int) : rows_Index_Box x i = some (if 0 ≤ i ∧ i < (l.length : Int) then (atB l i, true) else (((0, 0), (0, 0)), false)) := by
  unfold rows_Index_Box
  rw [Len_eq hx]
  by_cases h0 : i < 0
  · rw [decide_eq_true h0]
    simp only [Bool.not_true, gd_false, bind_some', Bool.true_or, if_true]
    rw [if_neg (by omega)]
  · rw [decide_eq_false h0]
    simp only [Bool.not_false, gd_true, bind_some', Bool.false_or]
    by_cases h1 : (l.length : Int) ≤ i
    · rw [decide_eq_true h1, if_pos rfl, if_neg (by omega)]
    · rw [decide_eq_false h1, if_neg (by decide), if_pos (by omega), hx.all, ixB ⟨i.toNat, by omega, by omega⟩]; rfl
/-- The pairs of i with those below j. -/
def rowQ (l : List Bx) (i j : Nat) : List (Int × Int) := ((List.range j).filter fun k => decide (i < k ∧ Mt (bx l i) (bx l k))).map fun k : Nat => ((i : Int), ((k : Nat) : Int))
theorem rowP_Q (l : List Bx) (i : Nat) : rowP l i = rowQ l i l.length := by
  unfold rowP rowQ fnd
  rw [List.filter_map, List.map_map, List.filter_filter]
  refine congrArg _ ?_
  refine List.filter_congr fun k _ => ?_
  by_cases h1 : i < k <;> by_cases h2 : Mt (l.getD i default) (l.getD k default) <;> simp [h1, h2, bx]
theorem rowQ_snoc (l : List Bx) (i j : Nat) : rowQ l i (j + 1) = rowQ l i j ++ (if i < j ∧ Mt (bx l i) (bx l j) then [((i : Int), (j : Int))] else []) := by
  unfold rowQ
  rw [List.range_succ, List.filter_append, List.map_append]
  by_cases h : i < j ∧ Mt (bx l i) (bx l j)
  · rw [if_pos h, List.filter_cons_of_pos (by simpa using h)]; rfl
  · rw [if_neg h, List.filter_cons_of_neg (by simpa using h)]; rfl
theorem rowQ_pre (l : List Bx) (i : Nat) : ∀ {j n : Nat}, j ≤ n → rowQ l i j <+: rowQ l i n
  | j, 0, h => by rw [show j = 0 by omega]; exact List.prefix_refl _
  | j, n + 1, h => by
    rcases Nat.lt_or_ge j (n + 1) with h1 | h1
    · exact (rowQ_pre l i (show j ≤ n by omega)).trans (by rw [rowQ_snoc]; exact List.prefix_append _ _)
    · rw [show j = n + 1 by omega]; exact List.prefix_refl _
theorem flat_pre (l : List Bx) : ∀ {j n : Nat}, j ≤ n → (List.range j).flatMap (rowP l) <+: (List.range n).flatMap (rowP l)
  | j, 0, h => by rw [show j = 0 by omega]; exact List.prefix_refl _
  | j, n + 1, h => by
    rcases Nat.lt_or_ge j (n + 1) with h1 | h1
    · exact (flat_pre l (show j ≤ n by omega)).trans (by rw [List.range_succ, List.flatMap_append]; exact List.prefix_append _ _)
    · rw [show j = n + 1 by omega]; exact List.prefix_refl _
theorem pre_prs (l : List Bx) {i j : Nat} (hi : i < l.length) (hj : j ≤ l.length) : (List.range i).flatMap (rowP l) ++ rowQ l i j <+: prs l := by
  refine List.IsPrefix.trans ?_ (flat_pre l (show i + 1 ≤ l.length from hi))
  rw [List.range_succ, List.flatMap_append, List.flatMap_cons, List.flatMap_nil, List.append_nil, rowP_Q]
  exact (List.prefix_append_right_inj _).2 (rowQ_pre l i hj)
theorem pre_get {α : Type} {a m : List α} {x d : α} (h : a ++ [x] <+: m) : a.length < m.length ∧ m.getD a.length d = x := by
  obtain ⟨t, rfl⟩ := h
  refine ⟨by simp, ?_⟩
  rw [List.append_assoc, getD_append_right (Nat.le_refl _)]; simp
theorem prs_len (l : List Bx) (hn : l.length ≤ 40) : (prs l).length ≤ 1600 := by
  have := flat_le (rowP l) 40 (fun i => by have := rowP_len l i; omega) (List.range l.length)
  rw [List.length_range] at this
  unfold prs; omega
theorem find_l4 (l : List Bx) (hn : l.length ≤ 40) (i : Nat) (hi : i < l.length) (fo at' : List Int) : law06_RowsFind_l4 l (prs l) (i : Int) fo at' (((((List.range i).flatMap (rowP l)).length : Nat) : Int), ((i + 1 : Nat) : Int)) = some (.inl (fo, at', ((((List.range (i + 1)).flatMap (rowP l)).length : Nat) : Int), ((i + 1 : Nat) : Int))) := by
  have hpl := prs_len l hn
  have hs : ∀ j, i < j → j ≤ l.length → loopO (fun s => law06_RowsFind_b4 l (prs l) (i : Int) fo at' s.1 s.2) ((((((List.range i).flatMap (rowP l)) ++ rowQ l i j).length : Nat) : Int), (j : Int)) = some (.inl (fo, at', ((((List.range (i + 1)).flatMap (rowP l)).length : Nat) : Int), ((i + 1 : Nat) : Int))) := by
    intro j h1 h2
    induction hd : l.length - j generalizing j with
    | zero =>
      have : j = l.length := by omega
      subst this
      refine loopO_inr ?_
      dsimp only
      unfold law06_RowsFind_b4
      rw [dnlt (Nat.lt_irrefl _), if_neg (by decide), ad_one (by omega), ← rowP_Q, List.range_succ, List.flatMap_append, List.flatMap_cons, List.flatMap_nil, List.append_nil]; rfl
    | succ d ih =>
      have hj : j < l.length := by omega
      refine Eq.trans (loopO_inl ?_) (ih (j + 1) (by omega) (by omega) (by omega))
      dsimp only
      unfold law06_RowsFind_b4 law06_RowsFind_k5
      have hp := pre_prs l hi (show j + 1 ≤ l.length by omega)
      have hpl2 := hp.length_le
      rw [rowQ_snoc] at hp hpl2 ⊢
      rw [dlt hj, if_pos rfl, ix_getD default hi, bind_some', of_eq, bind_some', ix_getD default hj, bind_some', of_eq, bind_some', ref06Meet_eq, bind_some', ad_one (show j < 1000000000 by omega)]
      by_cases hM : Mt (l.getD i default) (l.getD j default)
      · have hc : i < j ∧ Mt (bx l i) (bx l j) := ⟨h1, hM⟩
        rw [if_pos hc] at hp hpl2 ⊢
        rw [← List.append_assoc] at hp hpl2 ⊢
        obtain ⟨g1, g2⟩ := pre_get (d := (0, 0)) hp
        rw [decide_eq_true hM, if_pos rfl, decide_eq_false (by omega)]
        simp only [Bool.not_false, gd_true, Bool.false_or]
        rw [ix_getD (0, 0) g1, bind_some', g2, decide_eq_true rfl]
        simp only [Bool.not_true, bind_some', Bool.false_eq_true, if_false]
        rw [ad_one (by omega), List.length_append (as := _ ++ _) (bs := [_])]; rfl
      · rw [if_neg (show ¬ (i < j ∧ Mt (bx l i) (bx l j)) from fun h => hM h.2), List.append_nil, decide_eq_false hM, if_neg (by decide)]
  have h0 := hs (i + 1) (by omega) (by omega)
  have e : rowQ l i (i + 1) = [] := by
    unfold rowQ
    rw [List.filter_eq_nil_iff.2 (fun k hk => by simp only [List.mem_range] at hk; simp only [decide_eq_true_eq]; omega)]; rfl
  rw [e, List.append_nil] at h0
  exact h0
def fndR (l : List Bx) (b : Bx) (n : Nat) : List Int := ((List.range n).filter fun i => decide (Mt (l.getD i default) b)).map fun i => ((i : Nat) : Int)
theorem fndR_eq (l : List Bx) (b : Bx) : fndR l b l.length = fnd l b := by
  unfold fndR fnd
  refine congrArg _ (List.filter_congr fun k _ => ?_)
  rw [decide_eq_decide]; exact Mt_sym
theorem fndR_snoc (l : List Bx) (b : Bx) (n : Nat) : fndR l b (n + 1) = fndR l b n ++ (if Mt (l.getD n default) b then [(n : Int)] else []) := by
  unfold fndR
  rw [List.range_succ, List.filter_append, List.map_append]
  by_cases h : Mt (l.getD n default) b
  · rw [if_pos h, List.filter_cons_of_pos (by simpa using h)]; rfl
  · rw [if_neg h, List.filter_cons_of_neg (by simpa using h)]; rfl
theorem fndR_len (l : List Bx) (b : Bx) (n : Nat) : (fndR l b n).length ≤ n := by
  unfold fndR
  rw [List.length_map]
  have := List.length_filter_le (fun i => decide (Mt (l.getD i default) b)) (List.range n)
  rwa [List.length_range] at this
theorem law06_RowsFind_true (x0 : List ((Int × Int) × Int × Int)) (x1 : (Int × Int) × Int × Int) (x2 : Int × Int) (x3 : Int) (x4 : Int) (k0 : ∀ y2 ∈ x0, (I64 y2.1.1 ∧ I64 y2.1.2) ∧ (I64 y2.2.1 ∧ I64 y2.2.2)) (k1 : (I64 x1.1.1 ∧ I64 x1.1.2) ∧ (I64 x1.2.1 ∧ I64 x1.2.2)) (k2 : I64 x2.1 ∧ I64 x2.2) (k3 : I64 x3) (k4 : I64 x4) : law06_RowsFind x0 x1 x2 x3 x4 = some true := by
  unfold law06_RowsFind
  rw [show (40 : Int) = ((40 : Nat) : Int) from rfl, take_cut x0 40 (by decide), bind_some']
  have hn : (x0.take 40).length ≤ 40 := by rw [List.length_take]; omega
  generalize x0.take 40 = l at hn ⊢
  obtain ⟨k, hk, ek⟩ := rm_mod x3 (l.length + 1) (by omega)
  have e1 : IntKind.u64.wrap (ad (l.length : Int) 1) = ((l.length + 1 : Nat) : Int) := by rw [ad_one (by omega)]; exact IntWalk.u64_in _ (by omega)
  have e2 : IntKind.i64.wrap (k : Int) = (k : Int) := IntWalk.i64_in _ (by omega)
  rw [bind_some', e1, ek, bind_some', e2, cut_to (by omega), bind_some', New_eq _ (by rw [List.length_take]; omega), bind_some', cut_from (by omega), bind_some', Add_eq (ofL_inv _) _ (by rw [List.length_take, List.length_drop]; omega), bind_some']
  have e3 : build (ofL (l.take k)) (l.drop k) = ofL l := by unfold ofL; rw [build_app, List.take_append_drop]
  have e4 : (ofL l).1.length = l.length := by rw [(ofL_inv l).all]
  rw [e3, e4]
  simp only [decide_true, Bool.not_true, Bool.not_false, gd_true]
  rw [Len_eq (ofL_inv l), bind_some']
  simp only [decide_true, Bool.not_true, Bool.or_self, bind_some', Bool.false_eq_true, if_false]
  rw [Pairs_eq (ofL_inv l) hn, bind_some']
  have hpl := prs_len l hn
  have := loopO_nat (body := fun s => law06_RowsFind_b1 x1 x2 x4 l ((l.length : Int), ofL l) (prs l) s.1 s.2.1 s.2.2.1 s.2.2.2) (fun k => (fndR l x1 k, fndR l (x2, x2) k, ((((List.range k).flatMap (rowP l)).length : Nat) : Int), (k : Int))) l.length true (fun k hk => by
    dsimp only
    have l1 := fndR_len l x1 k
    have l2 := fndR_len l (x2, x2) k
    unfold law06_RowsFind_b1
    rw [dlt hk, if_pos rfl, ix_getD default hk, bind_some', of_eq, bind_some', of_eq, bind_some', ref06Meet_eq, bind_some', fndR_snoc, fndR_snoc]
    have hk2 : ∀ fo, law06_RowsFind_k2 x2 l (prs l) (fndR l (x2, x2) k) ((((List.range k).flatMap (rowP l)).length : Nat) : Int) (k : Int) fo = some (.inl (fo, fndR l (x2, x2) k ++ (if Mt (l.getD k default) (x2, x2) then [(k : Int)] else []), ((((List.range (k + 1)).flatMap (rowP l)).length : Nat) : Int), ((k + 1 : Nat) : Int))) := fun fo => by
      unfold law06_RowsFind_k2 law06_RowsFind_k3 law01_Of
      rw [ix_getD default hk, bind_some', of_eq, bind_some', bind_some', bind_some', ref06Meet_eq, bind_some', ad_one (by omega)]
      by_cases hM : Mt (l.getD k default) (x2, x2)
      · rw [decide_eq_true hM, if_pos rfl, if_pos hM, app_le (by simp only [List.length_cons, List.length_nil]; omega), bind_some', find_l4 l hn k hk]
      · rw [decide_eq_false hM, if_neg (by decide), if_neg hM, find_l4 l hn k hk, List.append_nil]
    by_cases hM : Mt (l.getD k default) x1
    · rw [decide_eq_true hM, if_pos rfl, if_pos hM, app_le (by simp only [List.length_cons, List.length_nil]; omega), bind_some', hk2]
    · rw [decide_eq_false hM, if_neg (by decide), if_neg hM, hk2, List.append_nil]) (by
    dsimp only
    have l1 := fnd_len l x1
    have l2 := fnd_len l (x2, x2)
    unfold law06_RowsFind_b1
    rw [dnlt (Nat.lt_irrefl _), if_neg (by decide), Box_eq (ofL_inv l), bind_some', bind_some', fndR_eq, fndR_eq]
    have hk6 : ∀ r w want, r.2 = w → r.1 = want → law06_RowsFind_k6 x1 x2 ((l.length : Int), ofL l) (prs l) (fnd l x1) (fnd l (x2, x2)) ((((List.range l.length).flatMap (rowP l)).length : Nat) : Int) r w want = some true := fun r w want h1 h2 => by
      subst h1 h2
      unfold law06_RowsFind_k6
      rw [known06, bind_some']
      simp only [gd_true, Bool.true_and]
      rw [Find_eq (ofL_inv l) hn, bind_some', Ints_eq _ _ (by omega) (by omega), bind_some', decide_eq_true rfl, gd_true, At_eq (ofL_inv l) hn, bind_some', gd_true, Ints_eq _ _ (by omega) (by omega), bind_some', decide_eq_true rfl]
      show Option.bind (some (true && decide ((((prs l).length : Nat) : Int) = ((prs l).length : Int)))) _ = _
      simp
    by_cases hc : 0 ≤ x4 ∧ x4 < (l.length : Int)
    · rw [show (decide (0 ≤ x4) && decide (x4 < (l.length : Int))) = true by simp [hc], if_pos rfl, if_pos hc, ixB ⟨x4.toNat, by omega, by omega⟩, bind_some', hk6 _ _ _ rfl rfl]; rfl
    · rw [show (decide (0 ≤ x4) && decide (x4 < (l.length : Int))) = false by
        rw [Bool.and_eq_false_iff, decide_eq_false_iff_not, decide_eq_false_iff_not]; omega, if_neg (by decide), if_neg hc, hk6 _ _ _ rfl rfl]; rfl)
  exact this
end Go.Proofs.Ytajbjhcnppiloaa.Pl
