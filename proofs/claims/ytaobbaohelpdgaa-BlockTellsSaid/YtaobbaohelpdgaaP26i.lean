import Derived.Test.YtaobbaohelpdgaaP26h
namespace Go.Proofs.Ytaobbaohelpdgaa.Pl
set_option maxRecDepth 4000
theorem Ofs01_eq (l : List Pt) (hn : l.length ≤ 1000000) : law01_Ofs l = some l := by
  unfold law01_Ofs law01_Ofs_l1
  have := loopO_nat (body := fun s => law01_Ofs_b1 l s.1 s.2) (fun k => (l.take k, (k : Int))) l.length l (fun k hk => by
    unfold law01_Ofs_b1
    simp only [dlt hk, if_true, ix_getD (0, 0) hk, bind_some', law01_Of]
    rw [app_at (by simp [capB]; omega), bind_some', ad_one (by omega), ← snoc_take (0, 0) hk]) (by
    unfold law01_Ofs_b1
    simp only [dnlt (Nat.lt_irrefl _), List.take_length]; rfl)
  exact this
theorem Ofs14_eq (l : List ArcT) (hl : l.length ≤ 1000000) (h2 : ∀ a ∈ l, a.1.length ≤ 1000000) : law14_Ofs l = some l := by
  have := loopO_nat (body := fun s => law14_Ofs_b1 l s.1 s.2) (fun k => (l.take k, (k : Int))) l.length l (fun k hk => by
    show law14_Ofs_b1 _ _ _ = _
    unfold law14_Ofs_b1
    rw [dlt hk, if_pos rfl, ix_getD ([], 0, 0) hk, bind_some', Ofs01_eq _ (h2 _ (getD_mem hk)), bind_some', bind_some', bind_some', app_le (by simp only [List.length_take, List.length_cons, List.length_nil]; omega), bind_some', ad_one (by omega), snoc_take ([], 0, 0) hk]) (by
    show law14_Ofs_b1 _ _ _ = _
    unfold law14_Ofs_b1
    rw [dnlt (Nat.lt_irrefl _), if_neg (by decide), take_all]; rfl)
  exact this
theorem Of_eq (n : NetP) (h1 : n.1.length ≤ 1000000) (h2 : pointsN n ≤ 1000000) : law15_Of n = some n := by
  unfold law15_Of
  rw [Ofs14_eq _ h1 (fun a ha => by
    have : a.1.length ≤ pointsN n := le_sum (fun a : ArcT => a.1.length) n.1 ha
    omega), bind_some']
theorem All_eq (l : List Pt) (hl : l.length < 1000000000) : ref01_All l = some (l.all mayP) := by
  have hm : ∀ p : Pt, ref01_May p = some (mayP p) := fun p => by
    unfold ref01_May mayP
    rw [bind_some', bind_some', Bool.and_assoc, Bool.and_assoc]
  have := loopO_all (body := fun s => ref01_All_b1 l s) (fun k => (k : Int)) l.length (fun k => mayP (l.getD k (0, 0)) = true) true false (fun k hk ho => by
    show ref01_All_b1 _ _ = _
    unfold ref01_All_b1
    rw [dlt hk, if_pos rfl, ix_getD (0, 0) hk, bind_some', hm, ho, bind_some', ad_one (by omega)]; rfl) (fun k hk ho => by
    show ref01_All_b1 _ _ = _
    unfold ref01_All_b1
    rw [dlt hk, if_pos rfl, ix_getD (0, 0) hk, bind_some', hm, (Bool.not_eq_true _).mp ho, bind_some']; rfl) (by
    show ref01_All_b1 _ _ = _
    unfold ref01_All_b1
    rw [dnlt (Nat.lt_irrefl _), if_neg (by decide)]; rfl)
  rw [all_if] at this
  refine (show ref01_All l = _ from this).trans ?_
  cases l.all mayP <;> rfl
theorem rCheck_l7 (n : NetP) (i k : Nat) (hi : i < n.2.length) (hk : k < (n.2.getD i []).length) (hl : ((n.2.getD i []).getD k []).length < 1000000000) : ref26_Check_l7 n (i : Int) (k : Int) 0 = some (if ((n.2.getD i []).getD k []).all refP then .inl (ad (k : Int) 1) else .inr (.inr 5)) := by
  generalize er : n.2.getD i [] = r at *
  generalize eq : r.getD k [] = q at *
  have hb : ∀ j, j < q.length → ref26_Check_b7 n (i : Int) (k : Int) (j : Int) = if refP (q.getD j 0) then some (.inl ((j + 1 : Nat) : Int)) else some (.inr (.inr (.inr 5))) := fun j hj => by
    unfold ref26_Check_b7
    rw [ix_getD [] hi, er, bind_some', ix_getD [] hk, eq, bind_some', dlt hj, if_pos rfl, bind_some', ix_getD [] hk, eq, bind_some', ix_getD 0 hj, bind_some', ad_one (by omega)]
    unfold refP
    by_cases h1 : q.getD j 0 < -65536
    · rw [decide_eq_true h1, decide_eq_false (show ¬ -65536 ≤ q.getD j 0 by omega)]; rfl
    · rw [decide_eq_false h1, decide_eq_true (show -65536 ≤ q.getD j 0 by omega)]
      show (some r).bind _ = _
      rw [bind_some']
      show (ix r (k : Int)).bind _ = _
      rw [ix_getD [] hk, eq, bind_some']
      show (ix q (j : Int)).bind _ = _
      rw [ix_getD 0 hj, bind_some', bind_some', Bool.false_or, Bool.true_and]
      by_cases h2 : q.getD j 0 ≤ 65536
      · rw [decide_eq_false (show ¬ 65536 < q.getD j 0 by omega), decide_eq_true h2]; rfl
      · rw [decide_eq_true (show 65536 < q.getD j 0 by omega), decide_eq_false h2]; rfl
  have := loopO_all (body := fun s => ref26_Check_b7 n (i : Int) (k : Int) s) (fun k => (k : Int)) q.length (fun j => refP (q.getD j 0) = true) (.inl (ad (k : Int) 1)) (.inr (.inr 5)) (fun j hj ho => by
    show ref26_Check_b7 _ _ _ _ = _
    rw [hb j hj, if_pos ho]) (fun j hj ho => by
    show ref26_Check_b7 _ _ _ _ = _
    rw [hb j hj, if_neg ho]) (by
    show ref26_Check_b7 _ _ _ _ = _
    unfold ref26_Check_b7
    rw [ix_getD [] hi, er, bind_some', ix_getD [] hk, eq, bind_some', dnlt (Nat.lt_irrefl _), if_neg (by decide)]; rfl)
  rw [all_if] at this
  exact this
theorem rCheck_l6 (n : NetP) (h : Fits n) (i : Nat) (hi : i < n.2.length) : ref26_Check_l6 n (i : Int) 0 = some (if (n.2.getD i []).all (fun q => q.all refP) then .inl (ad (i : Int) 1) else .inr 5) := by
  have hr := h.ring (getD_mem (d := []) hi)
  have h7 := fun k hk => rCheck_l7 n i k hi hk (hr.2 _ (getD_mem hk))
  generalize er : n.2.getD i [] = r at *
  have hb : ∀ k, k < r.length → ref26_Check_b6 n (i : Int) (k : Int) = if (r.getD k []).all refP then some (.inl ((k + 1 : Nat) : Int)) else some (.inr (.inr 5)) := fun k hk => by
    unfold ref26_Check_b6
    rw [ix_getD [] hi, er, bind_some', dlt hk, if_pos rfl, h7 k hk, ad_one (by omega)]
    split <;> rfl
  have := loopO_all (body := fun s => ref26_Check_b6 n (i : Int) s) (fun k => (k : Int)) r.length (fun k => (fun q : List Int => q.all refP) (r.getD k []) = true) (.inl (ad (i : Int) 1)) (.inr 5) (fun k hk ho => by
    show ref26_Check_b6 _ _ _ = _
    rw [hb k hk, if_pos ho]) (fun k hk ho => by
    show ref26_Check_b6 _ _ _ = _
    rw [hb k hk, if_neg ho]) (by
    show ref26_Check_b6 _ _ _ = _
    unfold ref26_Check_b6
    rw [ix_getD [] hi, er, bind_some', dnlt (Nat.lt_irrefl _), if_neg (by decide)]; rfl)
  rw [all_if (fun q : List Int => q.all refP)] at this
  exact this
theorem rCheck_l5 (n : NetP) (h : Fits n) : ref26_Check_l5 n 0 = some (if refsP n then 0 else 5) := by
  have hb : ∀ k, k < n.2.length → ref26_Check_b5 n (k : Int) = if (n.2.getD k []).all (fun r => r.all refP) then some (.inl ((k + 1 : Nat) : Int)) else some (.inr 5) := fun k hk => by
    unfold ref26_Check_b5
    have := h.2.1
    rw [dlt hk, if_pos rfl, rCheck_l6 n h k hk, ad_one (by omega)]
    split <;> rfl
  have := loopO_all (body := fun s => ref26_Check_b5 n s) (fun k => (k : Int)) n.2.length (fun k => (fun l : List (List Int) => l.all fun r => r.all refP) (n.2.getD k []) = true) (0 : Int) 5 (fun k hk ho => by
    show ref26_Check_b5 _ _ = _
    rw [hb k hk, if_pos ho]) (fun k hk ho => by
    show ref26_Check_b5 _ _ = _
    rw [hb k hk, if_neg ho]) (by
    show ref26_Check_b5 _ _ = _
    unfold ref26_Check_b5
    rw [dnlt (Nat.lt_irrefl _), if_neg (by decide)]; rfl)
  rw [all_if (fun l : List (List Int) => l.all fun r => r.all refP)] at this
  exact this
theorem rCheck_l4 (n : NetP) (h : Fits n) : ref26_Check_l4 n 0 = some (if n.1.all arcP && refsP n then 0 else 5) := by
  have hb : ∀ k, k < n.1.length → ref26_Check_b4 n (k : Int) = if arcP (n.1.getD k ([], 0, 0)) then some (.inl ((k + 1 : Nat) : Int)) else some (.inr 5) := fun k hk => by
    have h1 : (n.1.getD k ([], 0, 0)).1.length ≤ pointsN n := le_sum (fun a => a.1.length) n.1 (getD_mem hk)
    have h2 := h.1; have h3 := h.2.2.1
    unfold ref26_Check_b4
    rw [dlt hk, if_pos rfl, ix_getD ([], 0, 0) hk, bind_some', ad_one (by omega)]
    generalize n.1.getD k ([], 0, 0) = a at *
    rw [All_eq _ (by omega), bind_some', bind_some']
    unfold arcP sideP
    have e1 : decide (0 ≤ a.2.1) = !decide (a.2.1 < 0) := by rw [Bool.eq_iff_iff]; simp
    have e2 : decide (a.2.1 ≤ 32) = !decide (32 < a.2.1) := by rw [Bool.eq_iff_iff]; simp
    have e3 : decide (0 ≤ a.2.2) = !decide (a.2.2 < 0) := by rw [Bool.eq_iff_iff]; simp
    have e4 : decide (a.2.2 ≤ 32) = !decide (32 < a.2.2) := by rw [Bool.eq_iff_iff]; simp
    rw [e1, e2, e3, e4]
    generalize a.1.all mayP = x
    generalize decide (a.2.1 < 0) = y
    generalize decide (32 < a.2.1) = z
    generalize decide (a.2.2 < 0) = u
    generalize decide (32 < a.2.2) = v
    cases x <;> cases y <;> cases z <;> cases u <;> cases v <;> rfl
  have := loopO_all (body := fun s => ref26_Check_b4 n s) (fun k => (k : Int)) n.1.length (fun k => arcP (n.1.getD k ([], 0, 0)) = true) (if refsP n then (0 : Int) else 5) 5 (fun k hk ho => by
    show ref26_Check_b4 _ _ = _
    rw [hb k hk, if_pos ho]) (fun k hk ho => by
    show ref26_Check_b4 _ _ = _
    rw [hb k hk, if_neg ho]) (by
    show ref26_Check_b4 _ _ = _
    unfold ref26_Check_b4
    rw [dnlt (Nat.lt_irrefl _), if_neg (by decide), rCheck_l5 n h]; rfl)
  rw [all_if] at this
  refine (show ref26_Check_l4 n 0 = _ from this).trans ?_
  cases n.1.all arcP <;> rfl
theorem rCheck_l3 (n : NetP) (h : Fits n) (i : Nat) (hi : i < n.2.length) (g f : Nat) (hg : g + (n.2.getD i []).length < 1000000000) (hf : f + refsN (n.2.getD i []) < 1000000000) : ref26_Check_l3 n (i : Int) ((g : Int), (f : Int), 0) = some (.inl (((g + (n.2.getD i []).length : Nat) : Int), ((f + refsN (n.2.getD i []) : Nat) : Int), ad (i : Int) 1)) := by
  generalize er : n.2.getD i [] = r at *
  have := loopO_nat (body := fun s => ref26_Check_b3 n (i : Int) s.1 s.2.1 s.2.2) (fun k => (((g + k : Nat) : Int), ((f + refsN (r.take k) : Nat) : Int), (k : Int))) r.length (.inl (((g + r.length : Nat) : Int), ((f + refsN r : Nat) : Int), ad (i : Int) 1)) (fun k hk => by
    show ref26_Check_b3 _ _ _ _ _ = _
    unfold ref26_Check_b3
    try dsimp only
    have e1 : refsN (r.take (k + 1)) = refsN (r.take k) + (r.getD k []).length := sum_snoc List.length r [] hk
    have e2 : refsN (r.take (k + 1)) ≤ refsN r := sum_le List.length r (k + 1)
    rw [ix_getD [] hi, er, bind_some', dlt hk, if_pos rfl, bind_some', ix_getD [] hk, bind_some', ad_one (by omega), ad_in (by omega), ad_in (by omega), e1]
    rw [show ((f + refsN (r.take k) : Nat) : Int) + ((r.getD k []).length : Int) = ((f + (refsN (r.take k) + (r.getD k []).length) : Nat) : Int) by omega]; rfl) (by
    show ref26_Check_b3 _ _ _ _ _ = _
    unfold ref26_Check_b3
    try dsimp only
    rw [ix_getD [] hi, er, bind_some', dnlt (Nat.lt_irrefl _), if_neg (by decide), take_all]; rfl)
  exact this
theorem rCheck_l2 (n : NetP) (h : Fits n) (p : Nat) : ref26_Check_l2 n (p : Int) (0, 0, 0) = some (if (decide (65536 < n.1.length) || decide (65536 < p) || decide (32 < n.2.length) || decide (64 < ringsN n.2) || decide (65536 < refsNN n.2)) = true then 6 else if n.1.all arcP && refsP n then 0 else 5) := by
  have := loopO_nat (body := fun s => ref26_Check_b2 n (p : Int) s.1 s.2.1 s.2.2) (fun k => (((ringsN (n.2.take k) : Nat) : Int), ((refsNN (n.2.take k) : Nat) : Int), (k : Int))) n.2.length (if (decide (65536 < n.1.length) || decide (65536 < p) || decide (32 < n.2.length) || decide (64 < ringsN n.2) || decide (65536 < refsNN n.2)) = true then (6 : Int) else if n.1.all arcP && refsP n then 0 else 5) (fun k hk => by
    show ref26_Check_b2 _ _ _ _ _ = _
    unfold ref26_Check_b2
    try dsimp only
    have e1 : ringsN (n.2.take (k + 1)) = ringsN (n.2.take k) + (n.2.getD k []).length := sum_snoc List.length n.2 [] hk
    have e2 : refsNN (n.2.take (k + 1)) = refsNN (n.2.take k) + refsN (n.2.getD k []) := sum_snoc refsN n.2 [] hk
    have e3 : ringsN (n.2.take (k + 1)) ≤ ringsN n.2 := sum_le List.length n.2 (k + 1)
    have e4 : refsNN (n.2.take (k + 1)) ≤ refsNN n.2 := sum_le refsN n.2 (k + 1)
    obtain ⟨f1, f2, f3, f4, f5⟩ := h
    rw [dlt hk, if_pos rfl, rCheck_l3 n ⟨f1, f2, f3, f4, f5⟩ k hk _ _ (by omega) (by omega), ad_one (by omega), ← e1, ← e2]) (by
    show ref26_Check_b2 _ _ _ _ _ = _
    unfold ref26_Check_b2
    try dsimp only
    rw [dnlt (Nat.lt_irrefl _), if_neg (by decide), take_all, rCheck_l4 n h]
    simp only [bind_some']
    have q1 : decide ((65536 : Int) < (n.1.length : Int)) = decide (65536 < n.1.length) := dN (a := 65536)
    have q2 : decide ((65536 : Int) < (p : Int)) = decide (65536 < p) := dN (a := 65536)
    have q3 : decide ((32 : Int) < (n.2.length : Int)) = decide (32 < n.2.length) := dN (a := 32)
    have q4 : decide ((64 : Int) < (ringsN n.2 : Int)) = decide (64 < ringsN n.2) := dN (a := 64)
    have q5 : decide ((65536 : Int) < (refsNN n.2 : Int)) = decide (65536 < refsNN n.2) := dN (a := 65536)
    rw [q1, q2, q3, q4, q5]
    split <;> rfl)
  simpa [ref26_Check_l2, ringsN, refsNN] using this
theorem rCheck_eq (n : NetP) (h : Fits n) : ref26_Check n = some (checkP n) := by
  have := loopO_nat (body := fun s => ref26_Check_b1 n s.1 s.2) (fun k => ((((((n.1.take k).map fun a => a.1.length).sum) : Nat) : Int), (k : Int))) n.1.length (checkP n) (fun k hk => by
    show ref26_Check_b1 _ _ _ = _
    unfold ref26_Check_b1
    try dsimp only
    have e1 := sum_snoc (fun a => a.1.length) n.1 ([], 0, 0) hk
    have e3 : ((n.1.take (k + 1)).map fun a => a.1.length).sum ≤ pointsN n := sum_le (fun a => a.1.length) n.1 (k + 1)
    have h2 := h.1; have h3 := h.2.2.1
    rw [dlt hk, if_pos rfl, ix_getD ([], 0, 0) hk, bind_some', ad_in (by omega), ad_one (by omega), ← Int.natCast_add, ← e1]) (by
    show ref26_Check_b1 _ _ _ = _
    unfold ref26_Check_b1
    try dsimp only
    rw [dnlt (Nat.lt_irrefl _), if_neg (by decide), take_all]
    have := rCheck_l2 n h (pointsN n)
    unfold pointsN at this
    rw [this]; rfl)
  simpa [ref26_Check, ref26_Check_l1] using this
theorem rZig_eq {n : Int} (h : -100000000 ≤ n ∧ n ≤ 100000000) : ref07_Zig n = some ((zig n : Nat) : Int) := by
  unfold ref07_Zig zig
  by_cases h0 : n < 0
  · rw [decide_eq_true h0, if_pos rfl, if_pos h0, ad_in (by omega), ng_in (by omega), bind_some']
    congr 1
    unfold mlK adK
    rw [show IntKind.u64.wrap (-(n + 1)) = -(n + 1) from IntWalk.u64_in _ (by omega), show IntKind.u64.wrap (2 * -(n + 1)) = 2 * -(n + 1) from IntWalk.u64_in _ (by omega), show IntKind.u64.wrap (2 * -(n + 1) + 1) = 2 * -(n + 1) + 1 from IntWalk.u64_in _ (by omega)]
    omega
  · rw [decide_eq_false h0, if_neg (by decide), if_neg h0]
    congr 1
    unfold mlK
    rw [show IntKind.u64.wrap n = n from IntWalk.u64_in _ (by omega), show IntKind.u64.wrap (2 * n) = 2 * n from IntWalk.u64_in _ (by omega)]
    omega
def nI (xs : List Nat) : List Int := xs.map fun n : Nat => (n : Int)
theorem nI_app (xs ys : List Nat) : nI (xs ++ ys) = nI xs ++ nI ys := List.map_append
theorem nI_len (xs : List Nat) : (nI xs).length = xs.length := List.length_map _
theorem pt_snoc : ∀ (l : List Pt) (p q : Pt), ptNums p (l ++ [q]) = ptNums p l ++ [zig (q.1 - (lastPt p l).1), zig (q.2 - (lastPt p l).2)] ∧ lastPt p (l ++ [q]) = q
  | [], p, q => ⟨rfl, rfl⟩
  | r :: l, p, q => ⟨by rw [List.cons_append, ptNums, (pt_snoc l r q).1]; rfl, (pt_snoc l r q).2⟩
theorem pt_len : ∀ (l : List Pt) (p : Pt), (ptNums p l).length = 2 * l.length
  | [], _ => rfl
  | q :: l, p => by rw [ptNums, List.length_cons, List.length_cons, pt_len l q, List.length_cons]; omega
theorem arc_snoc : ∀ (l : List ArcT) (p : Pt) (a : ArcT), arcNums p (l ++ [a]) = arcNums p l ++ (a.2.1.toNat :: a.2.2.toNat :: a.1.length :: ptNums (lastArc p l) a.1) ∧ lastArc p (l ++ [a]) = lastPt (lastArc p l) a.1
  | [], p, a => ⟨by simp [arcNums, lastArc], rfl⟩
  | b :: l, p, a => ⟨by rw [List.cons_append, arcNums, (arc_snoc l _ a).1, arcNums, lastArc]; simp [List.append_assoc], (arc_snoc l _ a).2⟩
theorem arc_len : ∀ (l : List ArcT) (p : Pt), (arcNums p l).length = 3 * l.length + 2 * pointsL l
  | [], _ => rfl
  | a :: l, p => by rw [arcNums, List.length_cons, List.length_cons, List.length_cons, List.length_append, pt_len, arc_len l, pointsL_cons, List.length_cons]; omega
theorem ring_snoc : ∀ (l : List (List Int)) (q : List Int), ringNums (l ++ [q]) = ringNums l ++ (q.length :: q.map zig)
  | [], q => by simp [ringNums]
  | r :: l, q => by rw [List.cons_append, ringNums, ring_snoc l q, ringNums]; simp [List.append_assoc]
theorem ring_len : ∀ (l : List (List Int)), (ringNums l).length = l.length + refsN l
  | [] => rfl
  | q :: l => by rw [ringNums, List.length_cons, List.length_append, List.length_map, ring_len l, refsN_cons, List.length_cons]; omega
theorem face_snoc : ∀ (l : List (List (List Int))) (q : List (List Int)), faceNums (l ++ [q]) = faceNums l ++ (q.length :: ringNums q)
  | [], q => by simp [faceNums]
  | r :: l, q => by rw [List.cons_append, faceNums, face_snoc l q, faceNums]; simp [List.append_assoc]
theorem face_len : ∀ (l : List (List (List Int))), (faceNums l).length = l.length + ringsN l + refsNN l
  | [] => rfl
  | q :: l => by rw [faceNums, List.length_cons, List.length_append, ring_len, face_len l, ringsN_cons, refsNN_cons, List.length_cons]; omega
theorem Num_l2 (i : Int) (a : ArcT) (out : List Int) (p : Pt) (hp : mayP p = true) (ha : a.1.all mayP = true) (hl : out.length + 2 * a.1.length ≤ 100000000) : ref26_Numbers_l2 i a (out, p, 0) = some (.inl (out ++ nI (ptNums p a.1), lastPt p a.1, ad i 1)) := by
  have := loopO_nat (body := fun s => ref26_Numbers_b2 i a s.1 s.2.1 s.2.2) (fun k => (out ++ nI (ptNums p (a.1.take k)), lastPt p (a.1.take k), (k : Int))) a.1.length (.inl (out ++ nI (ptNums p a.1), lastPt p a.1, ad i 1)) (fun k hk => by
    show ref26_Numbers_b2 _ _ _ _ _ = _
    unfold ref26_Numbers_b2
    try dsimp only
    have m1 := (may_iff _).1 (getD_all ha (0, 0) hk)
    have m2 := (may_iff _).1 (last_may (a.1.take k) p hp (all_take ha k))
    rw [snoc_take (0, 0) hk, (pt_snoc _ _ _).1, (pt_snoc _ _ _).2, nI_app, dlt hk, if_pos rfl, ix_getD (0, 0) hk, bind_some', sb_in (by omega), rZig_eq (by omega), bind_some', bind_some', sb_in (by omega), rZig_eq (by omega), bind_some', app_le (by
      have := pt_len (a.1.take k) p
      simp only [List.length_append, nI_len, List.length_cons, List.length_nil, this, List.length_take]; omega), bind_some', bind_some', ad_one (by omega), List.append_assoc]; rfl) (by
    show ref26_Numbers_b2 _ _ _ _ _ = _
    unfold ref26_Numbers_b2
    try dsimp only
    rw [dnlt (Nat.lt_irrefl _), if_neg (by decide), take_all]; rfl)
  simpa [ref26_Numbers_l2, ptNums, nI, lastPt] using this
theorem Num_l5 (n : NetP) (i k : Nat) (out : List Int) (hi : i < n.2.length) (hk : k < (n.2.getD i []).length) (ha : ((n.2.getD i []).getD k []).all refP = true) (hl : out.length + ((n.2.getD i []).getD k []).length ≤ 100000000) : ref26_Numbers_l5 n (i : Int) (k : Int) (out, 0) = some (.inl (out ++ nI (((n.2.getD i []).getD k []).map zig), ad (k : Int) 1)) := by
  generalize er : n.2.getD i [] = r at *
  generalize eq : r.getD k [] = q at *
  have := loopO_nat (body := fun s => ref26_Numbers_b5 n (i : Int) (k : Int) s.1 s.2) (fun j => (out ++ nI ((q.take j).map zig), (j : Int))) q.length (.inl (out ++ nI (q.map zig), ad (k : Int) 1)) (fun j hj => by
    show ref26_Numbers_b5 _ _ _ _ _ = _
    unfold ref26_Numbers_b5
    try dsimp only
    have m1 := (ref_iff _).1 (getD_all ha 0 hj)
    rw [map_snoc zig q 0 hj, nI_app, ix_getD [] hi, er, bind_some', ix_getD [] hk, eq, bind_some', dlt hj, if_pos rfl, bind_some', ix_getD [] hk, eq, bind_some', ix_getD 0 hj, bind_some', rZig_eq (by omega), bind_some', app_le (by
      simp only [List.length_append, nI_len, List.length_cons, List.length_nil, List.length_map, List.length_take]; omega), bind_some', ad_one (by omega), List.append_assoc]; rfl) (by
    show ref26_Numbers_b5 _ _ _ _ _ = _
    unfold ref26_Numbers_b5
    try dsimp only
    rw [ix_getD [] hi, er, bind_some', ix_getD [] hk, eq, bind_some', dnlt (Nat.lt_irrefl _), if_neg (by decide), take_all]; rfl)
  simpa [ref26_Numbers_l5, nI] using this
theorem Num_l4 (n : NetP) (i : Nat) (out : List Int) (hi : i < n.2.length) (ha : (n.2.getD i []).all (fun q => q.all refP) = true) (hl : out.length + (n.2.getD i []).length + refsN (n.2.getD i []) ≤ 100000000) : ref26_Numbers_l4 n (i : Int) (out, 0) = some (.inl (out ++ nI (ringNums (n.2.getD i [])), ad (i : Int) 1)) := by
  have h5 := fun k out hk ha hl => Num_l5 n i k out hi hk ha hl
  generalize er : n.2.getD i [] = r at *
  have := loopO_nat (body := fun s => ref26_Numbers_b4 n (i : Int) s.1 s.2) (fun k => (out ++ nI (ringNums (r.take k)), (k : Int))) r.length (.inl (out ++ nI (ringNums r), ad (i : Int) 1)) (fun k hk => by
    show ref26_Numbers_b4 _ _ _ _ = _
    unfold ref26_Numbers_b4
    try dsimp only
    have e1 : refsN (r.take (k + 1)) = refsN (r.take k) + (r.getD k []).length := sum_snoc List.length r [] hk
    have e2 : refsN (r.take (k + 1)) ≤ refsN r := sum_le List.length r (k + 1)
    have e3 := ring_len (r.take k)
    have e4 : (r.take k).length = k := by rw [List.length_take]; omega
    rw [snoc_take [] hk, ring_snoc, nI_app, ix_getD [] hi, er, bind_some', dlt hk, if_pos rfl, bind_some', ix_getD [] hk, bind_some', u64_nat (by omega), bind_some', app_le (by
      simp only [List.length_append, nI_len, List.length_cons, List.length_nil]; omega), bind_some', h5 k _ hk (getD_all ha [] hk) (by
      simp only [List.length_append, nI_len, List.length_cons, List.length_nil]; omega), ad_one (by omega), List.append_assoc, List.append_assoc]; rfl) (by
    show ref26_Numbers_b4 _ _ _ _ = _
    unfold ref26_Numbers_b4
    try dsimp only
    rw [ix_getD [] hi, er, bind_some', dnlt (Nat.lt_irrefl _), if_neg (by decide), take_all]; rfl)
  simpa [ref26_Numbers_l4, nI, ringNums] using this
theorem Num_l3 (n : NetP) (out : List Int) (ha : refsP n = true) (hl : out.length + n.2.length + ringsN n.2 + refsNN n.2 ≤ 100000000) : ref26_Numbers_l3 n (out, 0) = some (out ++ nI (faceNums n.2)) := by
  have := loopO_nat (body := fun s => ref26_Numbers_b3 n s.1 s.2) (fun k => (out ++ nI (faceNums (n.2.take k)), (k : Int))) n.2.length (out ++ nI (faceNums n.2)) (fun k hk => by
    show ref26_Numbers_b3 _ _ _ = _
    unfold ref26_Numbers_b3
    try dsimp only
    have e1 : ringsN (n.2.take (k + 1)) = ringsN (n.2.take k) + (n.2.getD k []).length := sum_snoc List.length n.2 [] hk
    have e2 : refsNN (n.2.take (k + 1)) = refsNN (n.2.take k) + refsN (n.2.getD k []) := sum_snoc refsN n.2 [] hk
    have e3 : ringsN (n.2.take (k + 1)) ≤ ringsN n.2 := sum_le List.length n.2 (k + 1)
    have e4 : refsNN (n.2.take (k + 1)) ≤ refsNN n.2 := sum_le refsN n.2 (k + 1)
    have e5 := face_len (n.2.take k)
    have e6 : (n.2.take k).length = k := by rw [List.length_take]; omega
    rw [snoc_take [] hk, face_snoc, nI_app, dlt hk, if_pos rfl, ix_getD [] hk, bind_some', u64_nat (by omega), bind_some', app_le (by
      simp only [List.length_append, nI_len, List.length_cons, List.length_nil]; omega), bind_some', Num_l4 n k _ hk (getD_all (f := fun l : List (List Int) => l.all fun q => q.all refP) ha [] hk) (by
      simp only [List.length_append, nI_len, List.length_cons, List.length_nil]; omega), ad_one (by omega), List.append_assoc, List.append_assoc]; rfl) (by
    show ref26_Numbers_b3 _ _ _ = _
    unfold ref26_Numbers_b3
    try dsimp only
    rw [dnlt (Nat.lt_irrefl _), if_neg (by decide), take_all]; rfl)
  simpa [ref26_Numbers_l3, nI, faceNums] using this
theorem lastArc_may : ∀ (l : List ArcT) (p : Pt), mayP p = true → l.all arcP = true → mayP (lastArc p l) = true
  | [], p, h, _ => h
  | a :: l, p, hp, h => by
    rw [List.all_cons, Bool.and_eq_true] at h
    exact lastArc_may l _ (last_may _ _ hp ((arcP_iff a).1 h.1).2.2) h.2
theorem Numbers_eq (n : NetP) (hc : checkP n = 0) : ref26_Numbers n = some (nI (numbers n)) := by
  obtain ⟨c1, c2, c3, c4, c5, c6, c7⟩ := (check_iff n).1 hc
  unfold ref26_Numbers
  rw [u64_nat (by omega)]
  have := loopO_nat (body := fun s => ref26_Numbers_b1 n s.1 s.2.1 s.2.2) (fun k => ([(n.1.length : Int)] ++ nI (arcNums (0, 0) (n.1.take k)), lastArc (0, 0) (n.1.take k), (k : Int))) n.1.length (nI (numbers n)) (fun k hk => by
    show ref26_Numbers_b1 _ _ _ _ = _
    unfold ref26_Numbers_b1
    try dsimp only
    have e1 : pointsL (n.1.take (k + 1)) = pointsL (n.1.take k) + (n.1.getD k ([], 0, 0)).1.length := sum_snoc (fun a : ArcT => a.1.length) n.1 ([], 0, 0) hk
    have e2 : pointsL (n.1.take (k + 1)) ≤ pointsL n.1 := sum_le (fun a : ArcT => a.1.length) n.1 (k + 1)
    have e3 := arc_len (n.1.take k) (0, 0)
    have e4 : (n.1.take k).length = k := by rw [List.length_take]; omega
    obtain ⟨a1, a2, a3⟩ := (arcP_iff _).1 (getD_all c6 ([], 0, 0) hk)
    have b1 := (side_iff _).1 a1
    have b2 := (side_iff _).1 a2
    have hm := lastArc_may (n.1.take k) (0, 0) (by decide) (all_take c6 k)
    rw [snoc_take ([], 0, 0) hk, (arc_snoc _ _ _).1, (arc_snoc _ _ _).2, nI_app, dlt hk, if_pos rfl, ix_getD ([], 0, 0) hk, bind_some']
    generalize n.1.getD k ([], 0, 0) = a at *
    rw [u64_nat (by omega), bind_some', show IntKind.u64.wrap a.2.1 = a.2.1 from IntWalk.u64_in _ (by omega), show IntKind.u64.wrap a.2.2 = a.2.2 from IntWalk.u64_in _ (by omega), app_le (by
      simp only [List.length_append, nI_len, List.length_cons, List.length_nil]; omega), bind_some', Num_l2 _ a _ _ hm a3 (by
      simp only [List.length_append, nI_len, List.length_cons, List.length_nil]; omega), ad_one (by omega)]
    have t1 : ((a.2.1.toNat : Nat) : Int) = a.2.1 := Int.toNat_of_nonneg b1.1
    have t2 : ((a.2.2.toNat : Nat) : Int) = a.2.2 := Int.toNat_of_nonneg b2.1
    unfold nI
    rw [List.map_cons, List.map_cons, List.map_cons, t1, t2, List.append_assoc, List.append_assoc]; rfl) (by
    show ref26_Numbers_b1 _ _ _ _ = _
    unfold ref26_Numbers_b1
    try dsimp only
    have e3 := arc_len n.1 (0, 0)
    rw [dnlt (Nat.lt_irrefl _), if_neg (by decide), take_all, u64_nat (by omega), app_le (by
      simp only [List.length_append, nI_len, List.length_cons, List.length_nil]; omega), bind_some', Num_l3 n _ c7 (by
      simp only [List.length_append, nI_len, List.length_cons, List.length_nil]; omega)]
    unfold numbers nI
    simp [List.append_assoc])
  simpa [ref26_Numbers_l1, nI, arcNums, lastArc] using this
theorem numbers_len {n : NetP} (hc : checkP n = 0) : (numbers n).length ≤ 1000000 := by
  obtain ⟨c1, c2, c3, c4, c5, c6, c7⟩ := (check_iff n).1 hc
  have e1 := arc_len n.1 (0, 0)
  have e2 := face_len n.2
  unfold numbers
  rw [List.length_cons, List.length_append, List.length_cons]
  omega
theorem rcat_len (xs : List Nat) : (cat xs).length ≤ 10 * xs.length := by
  induction xs with
  | nil => simp [cat]
  | cons x xs ih => rw [cat_cons, List.length_append, List.length_cons]; have := vb_len x; omega
theorem rBytesN_eq (n : NetP) (hc : checkP n = 0) : ref26_Bytes n = some (bytesP n) := by
  unfold ref26_Bytes
  rw [Numbers_eq n hc, bind_some', bytes_cat]
  have hs := net_small hc
  have hl := numbers_len hc
  generalize numbers n = xs at hs hl
  have := loopO_nat (body := fun s => ref26_Bytes_b1 (nI xs) s.1 s.2) (fun k => (cat (xs.take k), (k : Int))) xs.length (cat xs) (fun k hk => by
    show ref26_Bytes_b1 _ _ _ = _
    unfold ref26_Bytes_b1
    try dsimp only
    have hk' : k < (nI xs).length := by rw [nI_len]; exact hk
    have e : (nI xs).getD k 0 = ((xs.getD k 0 : Nat) : Int) := by
      unfold nI
      rw [List.getD_eq_getElem?_getD, List.getD_eq_getElem?_getD, List.getElem?_map]
      cases xs[k]? <;> rfl
    have e2 := rcat_len (xs.take k)
    rw [List.length_take] at e2
    have e3 := vb_len (xs.getD k 0)
    rw [dlt hk', if_pos rfl, ix_getD 0 hk', bind_some', e, rBytes_eq (hs _ (getD_mem hk)), bind_some', app_le (by omega), bind_some', ad_one (by omega), snoc_take 0 hk, cat_app, cat_cons]
    simp [cat]) (by
    show ref26_Bytes_b1 _ _ _ = _
    unfold ref26_Bytes_b1
    try dsimp only
    rw [nI_len, dnlt (Nat.lt_irrefl _), if_neg (by decide), take_all]; rfl)
  simpa [ref26_Bytes_l1, cat] using this
theorem law26_BlockTells_true (x0 : (List ((List (Int × Int)) × Int × Int)) × (List (List (List Int)))) (x1 : List Int) (k0 : (∀ y5 ∈ x0.1, (∀ y6 ∈ y5.1, I64 y6.1 ∧ I64 y6.2) ∧ I64 y5.2.1 ∧ I64 y5.2.2) ∧ (∀ y7 ∈ x0.2, ∀ y8 ∈ y7, ∀ y9 ∈ y8, I64 y9)) (k1 : ∀ y2 ∈ x1, U8 y2) : law26_BlockTells x0 x1 = some true := by
  unfold law26_BlockTells
  have hf := cut_fits x0
  have hL := cut_blen x0
  obtain ⟨s1, s2, s3, s4, s5⟩ := cut_small x0
  rw [Cut_eq, bind_some', show (20 : Int) = ((20 : Nat) : Int) from rfl, cut_mn, bind_some']
  generalize cutN x0 = n at *
  rw [Of_eq n (by omega) (by omega), bind_some', rCheck_eq n hf, bind_some', Bytes_eq n hf, bind_some', Check_eq n hf, bind_some']
  by_cases hc : checkP n = 0
  · rw [if_pos hc, hc]
    have hu := bytes_u8 n
    have hm : ∀ x ∈ x1.take 20, U8 x := fun x hx => k1 x (List.mem_of_mem_take hx)
    have hml : (x1.take 20).length ≤ 20 := by rw [List.length_take]; omega
    generalize x1.take 20 = m at hm hml
    dsimp only
    rw [decide_eq_true rfl, bind_some', Bool.not_true, Bool.or_self, if_neg (by decide), if_neg (by decide), app_le (by simp only [List.length_nil]; omega), bind_some', List.nil_append, app_le (by omega), bind_some',
      Read_eq (fun x hx => by
        rcases List.mem_append.1 hx with hx | hx
        · exact hu x hx
        · exact hm x hx) (by rw [List.length_append]; omega), run_more hc]
    show Option.bind (some _) _ = _
    have hp := run_more hc []
    rw [List.append_nil] at hp
    rw [bind_some', Parse_eq hu (by omega), hp]
    unfold goR
    dsimp only
    rw [if_neg (Nat.lt_irrefl _), bind_some', known26, bind_some']
    show Option.bind (some n) _ = _
    rw [bind_some']
    show (ref26_Bytes n).bind _ = _
    rw [rBytesN_eq n hc, bind_some']
    show (ref07_Same (bytesP n) (bytesP n)).bind _ = _
    rw [Same_eq _ _ (by omega), decide_eq_true rfl, bind_some', bind_some', bind_some']
    dsimp only
    rw [decide_eq_true rfl, decide_eq_true rfl]
    show (net_Same n n).bind _ = _
    rw [Same26_eq n n hf, decide_eq_true rfl, bind_some', bind_some']; rfl
  · rw [if_neg hc]
    dsimp only
    rw [decide_eq_true rfl, bind_some', Bool.not_true, Bool.or_self, if_neg (by decide), decide_eq_false hc, Bool.not_false, if_pos rfl, known26, bind_some', bind_some']; rfl
end Go.Proofs.Ytaobbaohelpdgaa.Pl
