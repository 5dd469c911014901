/-
  Chapter 26, plainly: more faces or rings than may be. No program in sight.
-/
import Derived.Test.YtaobbaohelpdgaaP26c
namespace Go.Proofs.Ytaobbaohelpdgaa.Pl
set_option maxRecDepth 4000

theorem Same_eq (a b : List Int) (hl : a.length < 1000000000) : ref07_Same a b = some (decide (a = b)) := by
  unfold ref07_Same
  by_cases he : a.length = b.length
  · rw [show (!decide ((a.length : Int) = (b.length : Int))) = false by simp [he], if_neg (by decide)]
    have hb : ∀ k, k < a.length → ref07_Same_b1 a b (k : Int) = if a.getD k 0 = b.getD k 0 then some (.inl ((k + 1 : Nat) : Int)) else some (.inr false) := fun k hk => by
      unfold ref07_Same_b1
      rw [dlt hk, if_pos rfl, ix_getD 0 hk, bind_some', ix_getD 0 (by omega), bind_some', ad_one (by omega)]
      by_cases h : a.getD k 0 = b.getD k 0
      · rw [if_pos h, decide_eq_true h]; rfl
      · rw [if_neg h, decide_eq_false h]; rfl
    have := loopO_all (body := fun s => ref07_Same_b1 a b s) (fun k => (k : Int)) a.length (fun k => a.getD k 0 = b.getD k 0) true false (fun k hk ho => by
      show ref07_Same_b1 _ _ _ = _
      rw [hb k hk, if_pos ho]) (fun k hk ho => by
      show ref07_Same_b1 _ _ _ = _
      rw [hb k hk, if_neg ho]) (by
      show ref07_Same_b1 _ _ _ = _
      unfold ref07_Same_b1
      rw [dnlt (Nat.lt_irrefl _), if_neg (by decide)]; rfl)
    refine (show ref07_Same_l1 a b 0 = _ from this).trans ?_
    congr 1
    rw [Bool.eq_iff_iff, decide_eq_true_iff]
    constructor
    · intro h
      split at h
      · rename_i h1; exact ext_getD 0 he h1
      · cases h
    · intro h
      subst h
      rw [if_pos fun _ _ => rfl]
  · rw [show (!decide ((a.length : Int) = (b.length : Int))) = true by simp; omega, if_pos rfl, decide_eq_false fun e => he (by rw [e])]
theorem known26 : law26_known = some true := by
  unfold law26_known
  have f1 : Fits ([], []) := by unfold Fits pointsN ringsN refsNN; simp
  have f2 : Fits ([([(0, 0), (3, 0)], 0, 1)], []) := by unfold Fits pointsN ringsN refsNN; simp
  rw [Bytes_eq _ f1, if_pos (by decide), bind_some', Bytes_eq _ f2, if_pos (by decide), bind_some']
  have e1 : bytesP ([], []) = [0, 0] := by decide
  have e2 : bytesP ([([(0, 0), (3, 0)], 0, 1)], []) = [1, 0, 1, 2, 0, 0, 6, 0, 0] := by decide
  rw [e1, e2]
  simp [Same_eq]
theorem sum_set {α : Type} (f : α → Nat) (x : α) : ∀ (l : List α) (i : Nat) (d : α), i < l.length → ((l.set i x).map f).sum + f (l.getD i d) = (l.map f).sum + f x
  | [], i, d, h => by simp at h
  | y :: l, 0, d, h => by simp; omega
  | y :: l, i + 1, d, h => by
    have := sum_set f x l i d (by simpa using h)
    simp only [List.set_cons_succ, List.map_cons, List.sum_cons, List.getD_cons_succ] at this ⊢
    omega
theorem rm_mod (x : Int) (b : Nat) (hb : 0 < b) : ∃ k : Nat, k < b ∧ rmK (IntKind.u64.wrap x) (b : Int) = some (k : Int) := by
  refine ⟨((x % 18446744073709551616) % (b : Int)).toNat, ?_, ?_⟩
  · have := Int.emod_lt_of_pos (x % 18446744073709551616) (show (0 : Int) < b by omega)
    have := Int.emod_nonneg (x % 18446744073709551616) (show (b : Int) ≠ 0 by omega)
    omega
  · unfold rmK
    rw [if_neg (by omega), u64_w]
    have h0 : 0 ≤ x % 18446744073709551616 := by omega
    have := Int.emod_nonneg (x % 18446744073709551616) (show (b : Int) ≠ 0 by omega)
    rw [Int.tmod_eq_emod_of_nonneg h0]
    congr 1; omega
def Some1 (l : List (List (List Int))) : Prop := ∀ r ∈ l, ∀ q ∈ r, ∃ c : Nat, c < 81 ∧ q = [(c : Int)]
theorem refs_one : ∀ (l : List (List (List Int))), Some1 l → refsNN l = ringsN l
  | [], _ => rfl
  | r :: l, h => by
    have ih := refs_one l fun r' hr => h r' (by simp [hr])
    have h2 : ∀ (r : List (List Int)), (∀ q ∈ r, ∃ c : Nat, c < 81 ∧ q = [(c : Int)]) → refsN r = r.length := by
      intro r
      induction r with
      | nil => intro _; rfl
      | cons q r ih2 =>
        intro hq
        obtain ⟨c, _, rfl⟩ := hq q (by simp)
        have := ih2 fun q' hq' => hq q' (by simp [hq'])
        simp only [refsN, List.map_cons, List.sum_cons, List.length_cons, List.length_nil] at this ⊢
        omega
    have h3 := h2 r (h r (by simp))
    simp only [refsNN, ringsN, List.map_cons, List.sum_cons] at ih ⊢
    omega
theorem refs_ok (l : List (List (List Int))) (h : Some1 l) : refsP ([], l) = true := by
  unfold refsP
  rw [List.all_eq_true]
  intro r hr
  rw [List.all_eq_true]
  intro q hq
  obtain ⟨c, hc, rfl⟩ := h r hr q hq
  simp [refP]; omega
theorem k3_eq (l : List (List (List Int))) (h : Some1 l) (h1 : l.length < 1000) (h2 : ringsN l < 1000) (want : Int) (hw : want = if 32 < l.length ∨ 64 < ringsN l then 6 else 0) : law26_BlockMany_k3 l want = some true := by
  unfold law26_BlockMany_k3
  have hr := refs_one l h
  have hp : pointsN ([], l) = 0 := rfl
  rw [known26, bind_some', gd_true, Check_eq _ (by unfold Fits; simp only [List.length_nil, hp, hr]; omega), bind_some']
  unfold checkP manyP
  rw [refs_ok l h]
  simp only [List.length_nil, hp, hr, List.all_nil, Bool.and_self, if_true, Bool.true_and]
  rw [decide_eq_false (show ¬ 65536 < 0 by decide), decide_eq_false (show ¬ 65536 < ringsN l by omega)]
  simp only [Bool.false_or, Bool.or_false]
  subst hw
  by_cases c1 : 32 < l.length <;> by_cases c2 : 64 < ringsN l <;> simp [c1, c2]
theorem law26_BlockMany_true (x0 : Int) (x1 : Int) (k0 : I64 x0) (k1 : I64 x1) : law26_BlockMany x0 x1 = some true := by
  unfold law26_BlockMany
  obtain ⟨k, hk, ek⟩ := rm_mod x0 41 (by decide)
  obtain ⟨m, hm, em⟩ := rm_mod x1 81 (by decide)
  rw [show (41 : Int) = ((41 : Nat) : Int) from rfl, show (81 : Int) = ((81 : Nat) : Int) from rfl, ek, bind_some', em, bind_some']
  have wk : IntKind.i64.wrap (k : Int) = (k : Int) := IntWalk.i64_in _ (by omega)
  have wm : IntKind.i64.wrap (m : Int) = (m : Int) := IntWalk.i64_in _ (by omega)
  -- the second loop
  have h2 : law26_BlockMany_l2 (k : Int) (m : Int) (List.replicate k [], 0) = some true := by
    unfold law26_BlockMany_l2
    obtain ⟨r, h1, h2⟩ := loopO_rule (body := fun s => law26_BlockMany_b2 (k : Int) (m : Int) s.1 s.2) (fun s => ∃ j : Nat, s.2 = (j : Int) ∧ j ≤ m ∧ s.1.length = k ∧ ringsN s.1 = j ∧ Some1 s.1) (fun s => m - s.2.toNat) (fun r => r = true) (fun s hs => by
      obtain ⟨l, i⟩ := s
      obtain ⟨j, h1, h2, h3, h4, h5⟩ := hs
      simp only at h1 h2 h3 h4 h5
      subst h1
      dsimp only
      unfold law26_BlockMany_b2
      rw [wk, wm]
      by_cases hc : j < m ∧ 0 < k
      · left
        have hp : j % k < l.length := by rw [h3]; exact Nat.mod_lt _ hc.2
        have er : rmK (j : Int) (k : Int) = some ((j % k : Nat) : Int) := by
          unfold rmK
          rw [if_neg (by omega), Int.tmod_eq_emod_of_nonneg (by omega)]; rfl
        have hrl : (l.getD (j % k) []).length ≤ ringsN l := le_sum List.length l (getD_mem hp)
        rw [show (decide ((j : Int) < (m : Int)) && decide (0 < (k : Int))) = true by simp; omega, bind_some', if_pos rfl, er, bind_some', ix_getD [] hp, bind_some', app_le (by simp only [List.length_cons, List.length_nil]; omega), bind_some', bind_some', put_nat hp, bind_some', ad_one (by omega)]
        refine ⟨_, rfl, ⟨j + 1, rfl, by omega, by rw [List.length_set]; exact h3, ?_, ?_⟩, by simp; omega⟩
        · have := sum_set List.length (l.getD (j % k) [] ++ [[(j : Int)]]) l (j % k) [] hp
          simp only [ringsN, List.length_append, List.length_cons, List.length_nil] at this h4 ⊢
          omega
        · intro r hr q hq
          rcases List.mem_or_eq_of_mem_set hr with hr | rfl
          · exact h5 r hr q hq
          · rcases List.mem_append.1 hq with hq | hq
            · exact h5 _ (getD_mem hp) q hq
            · simp at hq; subst hq; exact ⟨j, by omega, rfl⟩
      · right
        have hx : (decide ((j : Int) < (m : Int)) && decide (0 < (k : Int))) = false := by
          rw [Bool.and_eq_false_iff, decide_eq_false_iff_not, decide_eq_false_iff_not]; omega
        rw [hx, bind_some', if_neg (by decide)]
        refine ⟨true, ?_, rfl⟩
        have hlen : ringsN l < 1000 := by omega
        have h0 : k = 0 → ringsN l = 0 := fun h0 => by
          have : l = [] := List.eq_nil_of_length_eq_zero (by omega)
          subst this; rfl
        simp only [bind_some']
        by_cases hb : 32 < k ∨ (0 < k ∧ 64 < m)
        · rw [show (decide (32 < (k : Int)) || (decide (0 < (k : Int)) && decide (64 < (m : Int)))) = true by simp; omega, if_pos rfl, k3_eq l h5 (by omega) hlen 6 (by rw [if_pos (by omega)])]; rfl
        · rw [show (decide (32 < (k : Int)) || (decide (0 < (k : Int)) && decide (64 < (m : Int)))) = false by
            rw [Bool.or_eq_false_iff, Bool.and_eq_false_iff, decide_eq_false_iff_not, decide_eq_false_iff_not, decide_eq_false_iff_not]; omega, if_neg (by decide), k3_eq l h5 (by omega) hlen 0 (by rw [if_neg (by omega)])]; rfl) (s := (List.replicate k [], 0)) ⟨0, rfl, Nat.zero_le _, by simp, by simp [ringsN], fun r hr q hq => by rw [List.eq_of_mem_replicate hr] at hq; cases hq⟩
    rw [h1, h2]
  have := loopO_nat (body := fun s => law26_BlockMany_b1 (k : Int) (m : Int) s.1 s.2) (fun j => ((List.replicate j ([] : List (List Int))), (j : Int))) k true (fun j hj => by
    dsimp only
    unfold law26_BlockMany_b1
    rw [wk, dlt hj, if_pos rfl, app_le (by simp; omega), bind_some', ad_one (by omega), List.replicate_succ']) (by
    dsimp only
    unfold law26_BlockMany_b1
    rw [wk, dnlt (Nat.lt_irrefl _), if_neg (by decide), h2]; rfl)
  simpa [law26_BlockMany_l1] using this
end Go.Proofs.Ytaobbaohelpdgaa.Pl
