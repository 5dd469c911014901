import Derived.Test.YtaobbaohelpdgaaP26j
namespace Go.Proofs.Ytaobbaohelpdgaa.Pl
set_option maxRecDepth 4000
theorem cmp04_self (l : List Int) (hl : l.length ≤ 1000000) : ref04_Compare l l = some 0 := by
  have := loopO_nat (body := fun s => ref04_Compare_b1 l l s) (fun k => (k : Int)) l.length (0 : Int) (fun k hk => by
    show ref04_Compare_b1 _ _ _ = _
    unfold ref04_Compare_b1
    rw [dlt hk, bind_some', Bool.and_self, if_pos rfl, ix_getD 0 hk, bind_some', bind_some', decide_eq_false (Int.lt_irrefl _), if_neg (by decide), bind_some', bind_some', decide_eq_false (Int.lt_irrefl _), if_neg (by decide), ad_one (by omega)]) (by
    show ref04_Compare_b1 _ _ _ = _
    unfold ref04_Compare_b1
    rw [dnlt (Nat.lt_irrefl _), bind_some', Bool.and_self, if_neg (by decide), sb_in (by omega), bind_some', Int.sub_self]; rfl)
  exact this
theorem cmp14_self (l : List Pt) (hl : l.length ≤ 1000000) : ref14_Compare l l = some 0 := by
  have hL : ∀ p : Pt, ref01_Less p p = some false := fun p => by
    unfold ref01_Less
    rw [decide_eq_true rfl, Bool.not_true, if_neg (by decide), decide_eq_false (Int.lt_irrefl _)]
  have := loopO_nat (body := fun s => ref14_Compare_b1 l l s) (fun k => (k : Int)) l.length (0 : Int) (fun k hk => by
    show ref14_Compare_b1 _ _ _ = _
    unfold ref14_Compare_b1
    rw [dlt hk, bind_some', Bool.and_self, if_pos rfl, ix_getD (0, 0) hk, bind_some', bind_some', hL, bind_some', if_neg (by decide), bind_some', bind_some', hL, bind_some', if_neg (by decide), ad_one (by omega)]) (by
    show ref14_Compare_b1 _ _ _ = _
    unfold ref14_Compare_b1
    rw [dnlt (Nat.lt_irrefl _), bind_some', Bool.and_self, if_neg (by decide), sb_in (by omega), bind_some', Int.sub_self]; rfl)
  exact this
theorem self_l3 (n : NetP) (i : Nat) (hi : i < n.2.length) (h1 : (n.2.getD i []).length ≤ 1000000) (h2 : ∀ r ∈ n.2.getD i [], r.length ≤ 1000000) : ref15_Same_l3 n n (i : Int) 0 = some (.inl (ad (i : Int) 1)) := by
  generalize er : n.2.getD i [] = r at *
  have := loopO_nat (body := fun s => ref15_Same_b3 n n (i : Int) s) (fun k => (k : Int)) r.length (.inl (ad (i : Int) 1)) (fun k hk => by
    show ref15_Same_b3 _ _ _ _ = _
    unfold ref15_Same_b3
    rw [ix_getD [] hi, er, bind_some', dlt hk, if_pos rfl, bind_some', ix_getD [] hk, bind_some', bind_some', ix_getD [] hk, bind_some', cmp04_self _ (h2 _ (getD_mem hk)), bind_some', decide_eq_true rfl, Bool.not_true, if_neg (by decide), ad_one (by omega)]) (by
    show ref15_Same_b3 _ _ _ _ = _
    unfold ref15_Same_b3
    rw [ix_getD [] hi, er, bind_some', dnlt (Nat.lt_irrefl _), if_neg (by decide)]; rfl)
  exact this
theorem self_eq (n : NetP) (h : checkP n = 0) : law15_Same n n = some true := by
  obtain ⟨c1, c2, c3, c4, c5, c6, c7⟩ := (check_iff n).1 h
  have hpn : pointsN n = pointsL n.1 := rfl
  unfold law15_Same
  rw [Of_eq n (by omega) (by omega), bind_some']
  have h2 : ref15_Same_l2 n n 0 = some true := by
    have := loopO_nat (body := fun s => ref15_Same_b2 n n s) (fun k => (k : Int)) n.2.length true (fun k hk => by
      show ref15_Same_b2 _ _ _ = _
      unfold ref15_Same_b2
      have h3 : (n.2.getD k []).length ≤ ringsN n.2 := le_sum List.length n.2 (getD_mem hk)
      have h4 : refsN (n.2.getD k []) ≤ refsNN n.2 := le_sum refsN n.2 (getD_mem hk)
      rw [dlt hk, if_pos rfl, ix_getD [] hk, bind_some', bind_some', decide_eq_true rfl, Bool.not_true, if_neg (by decide), self_l3 n k hk (by omega) (fun r hr => by
        have : r.length ≤ refsN (n.2.getD k []) := le_sum List.length _ hr
        omega), ad_one (by omega)]) (by
      show ref15_Same_b2 _ _ _ = _
      unfold ref15_Same_b2
      rw [dnlt (Nat.lt_irrefl _), if_neg (by decide)]; rfl)
    exact this
  have h1 : ref15_Same_l1 n n 0 = some true := by
    have := loopO_nat (body := fun s => ref15_Same_b1 n n s) (fun k => (k : Int)) n.1.length true (fun k hk => by
      show ref15_Same_b1 _ _ _ = _
      unfold ref15_Same_b1
      have h3 : (n.1.getD k ([], 0, 0)).1.length ≤ pointsN n := le_sum (fun a => a.1.length) n.1 (getD_mem hk)
      rw [dlt hk, if_pos rfl, ix_getD ([], 0, 0) hk, bind_some', bind_some', decide_eq_true rfl, decide_eq_true rfl, bind_some']
      show (ref14_Compare _ _).bind _ = _
      rw [cmp14_self _ (by omega), bind_some', decide_eq_true rfl, ad_one (by omega)]; rfl) (by
      show ref15_Same_b1 _ _ _ = _
      unfold ref15_Same_b1
      rw [dnlt (Nat.lt_irrefl _), if_neg (by decide), h2]; rfl)
    exact this
  unfold ref15_Same
  rw [decide_eq_true rfl, decide_eq_true rfl, bind_some', Bool.not_true, Bool.or_self, if_neg (by decide), h1]; rfl
theorem nil_ok : checkP ([], []) = 0 := by decide
theorem law26_BlockReads_true (x0 : List Int) (k0 : ∀ y2 ∈ x0, U8 y2) : law26_BlockReads x0 = some true := by
  unfold law26_BlockReads
  rw [show (500 : Int) = ((500 : Nat) : Int) from rfl, cut_mn, bind_some']
  have hb : ∀ x ∈ x0.take 500, U8 x := fun x hx => k0 x (List.mem_of_mem_take hx)
  have hl : (x0.take 500).length ≤ 500 := by rw [List.length_take]; omega
  generalize x0.take 500 = b at hb hl
  rw [← reads_agree hb (by omega), Read_eq hb (by omega), Parse_eq hb (by omega)]
  cases h : runA b netPr 0 with
  | inr e =>
    have hE := er_net b 0 e h
    unfold goR
    dsimp only
    rw [bind_some', bind_some', decide_eq_true rfl, decide_eq_true rfl, bind_some']
    show (law15_Same ([], []) ([], [])).bind _ = _
    rw [self_eq _ nil_ok, bind_some']
    show (if false = true then _ else _) = _
    rw [if_neg (by decide), bind_some', decide_eq_false hE, Bool.false_and, bind_some', if_neg (by decide)]
    unfold law26_BlockReads_k1
    dsimp only
    rw [decide_eq_true rfl]
    show (law15_Same ([], []) ([], [])).bind _ = _
    rw [self_eq _ nil_ok, bind_some', bind_some', decide_eq_false hE, known26]; rfl
  | inl q =>
    obtain ⟨n, j⟩ := q
    obtain ⟨xs, hs, he, hd, hj, hj2⟩ := runA_inv hb netPr 0 n j (Nat.zero_le _) h
    obtain ⟨hc, hx⟩ := (net_iff xs n).1 he
    rw [Nat.zero_add] at hj
    have ht : b.take j = bytesP n := by
      rw [List.drop_zero] at hd
      rw [hd, bytes_cat, ← hx, List.take_append_of_le_length (by omega), hj, List.take_length]
    have hfin : law26_BlockReads_k1 b (n, (j : Int), 0) (n, (j : Int), 0) (if j < b.length then (([], []), 3) else (n, 0)) (if j < b.length then [] else n.1) (if j < b.length then [] else n.2) (if j < b.length then 3 else 0) = some true := by
      unfold law26_BlockReads_k1
      have hs2 : law15_Same (if j < b.length then ((([], []) : NetP), (3 : Int)) else (n, 0)).1 (if j < b.length then [] else n.1, if j < b.length then [] else n.2) = some true := by
        split
        · exact self_eq _ nil_ok
        · exact self_eq _ hc
      have hs3 : (if j < b.length then ((([], []) : NetP), (3 : Int)) else (n, 0)).2 = if j < b.length then 3 else 0 := by split <;> rfl
      rw [hs2, decide_eq_true hs3]
      dsimp only
      rw [Bytes_eq n (fits_ok hc), if_pos hc, known26, cut_to hj2, ht]
      rw [show gd (!(!true)) (some true) false = some true from rfl, bind_some', show (!true || !true) = false from rfl, bind_some', if_neg (by decide), decide_eq_true rfl, Bool.not_true, if_neg (by decide), bind_some', bind_some']
      show Option.bind (some _) _ = _
      rw [bind_some']
      show (ref07_Same _ _).bind _ = _
      have hbl : (bytesP n).length ≤ 500 := by rw [← ht, List.length_take]; omega
      rw [Same_eq _ _ (by show (bytesP n).length < _; omega), decide_eq_true rfl]; rfl
    unfold goR
    dsimp only
    rw [bind_some', bind_some', decide_eq_true rfl, decide_eq_true rfl, bind_some']
    show (law15_Same n n).bind _ = _
    rw [self_eq _ hc, bind_some']
    show (if false = true then _ else _) = _
    rw [if_neg (by decide), bind_some', Bool.true_and, bind_some']
    by_cases hlt : j < b.length
    · simp only [if_pos hlt] at hfin ⊢
      rw [decide_eq_true (by omega), if_pos rfl]
      exact hfin
    · simp only [if_neg hlt] at hfin ⊢
      rw [decide_eq_false (by omega), if_neg (by decide)]
      exact hfin
end Go.Proofs.Ytaobbaohelpdgaa.Pl
