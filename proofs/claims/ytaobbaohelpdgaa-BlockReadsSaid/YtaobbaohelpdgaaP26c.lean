import Derived.Test.YtaobbaohelpdgaaP26b
namespace Go.Proofs.Ytaobbaohelpdgaa.Pl
set_option maxRecDepth 4000
theorem stepPt_may (l : List Pt) (s : List Int × Pt) (h : l.all mayP = true) (hs : mayP s.2 = true) : mayP (l.foldl stepPt s).2 = true := by
  induction l generalizing s with
  | nil => exact hs
  | cons p l ih =>
    rw [List.all_cons, Bool.and_eq_true] at h
    exact ih _ h.2 h.1
theorem may_take {l : List Pt} (h : l.all mayP = true) (k : Nat) : (l.take k).all mayP = true := by
  rw [List.all_eq_true] at h ⊢
  exact fun x hx => h x (List.mem_of_mem_take hx)
theorem may_diff {p q : Pt} (hp : mayP p = true) (hq : mayP q = true) : sb p.1 q.1 = p.1 - q.1 ∧ sb p.2 q.2 = p.2 - q.2 ∧ I64 (p.1 - q.1) ∧ I64 (p.2 - q.2) := by
  simp only [mayP, Bool.and_eq_true, decide_eq_true_eq] at hp hq
  unfold I64
  exact ⟨sb_in (by omega), sb_in (by omega), by omega, by omega⟩
theorem getD_all {α : Type} {f : α → Bool} {l : List α} (h : l.all f = true) {k : Nat} (d : α) (hk : k < l.length) : f (l.getD k d) = true := List.all_eq_true.1 h _ (getD_mem hk)
theorem Bytes_l2 (x : Int) (a : (List Pt) × Int × Int) (out : List Int) (at' : Pt) (ha : a.1.all mayP = true) (hp : mayP at' = true) (hl : out.length + 20 * a.1.length ≤ 999999800) (hl2 : a.1.length < 1000000) :
    block_Bytes_l2 x a (out, at', 0) = some (.inl ((a.1.foldl stepPt (out, at')).1, (a.1.foldl stepPt (out, at')).2, ad x 1)) := by
  have := loopO_nat (body := fun s => block_Bytes_b2 x a s.1 s.2.1 s.2.2) (fun k => (((a.1.take k).foldl stepPt (out, at')).1, ((a.1.take k).foldl stepPt (out, at')).2, (k : Int))) a.1.length (.inl ((a.1.foldl stepPt (out, at')).1, (a.1.foldl stepPt (out, at')).2, ad x 1)) (fun k hk => by
    show block_Bytes_b2 _ _ _ _ _ = _
    unfold block_Bytes_b2
    dsimp only
    obtain ⟨d1, d2, d3, d4⟩ := may_diff (getD_all ha (0, 0) hk) (stepPt_may _ (out, at') (may_take ha k) hp)
    have hlen := pts_len (a.1.take k) (out, at')
    have h20 : 20 * (a.1.take k).length ≤ 20 * a.1.length := Nat.mul_le_mul_left _ (by rw [List.length_take]; omega)
    have hv := vb_len (zig ((a.1.getD k (0, 0)).1 - ((a.1.take k).foldl stepPt (out, at')).2.1))
    simp only at hlen
    rw [dlt hk, if_pos rfl, ix_getD (0, 0) hk, bind_some', d1, d2, turned_eq d3 (by omega), bind_some', turned_eq d4 (by rw [List.length_append]; omega), bind_some', ad_one (by omega), foldl_snoc stepPt _ _ (0, 0) hk]
    rfl) (by
    show block_Bytes_b2 _ _ _ _ _ = _
    unfold block_Bytes_b2
    dsimp only
    rw [dnlt (Nat.lt_irrefl _), if_neg (by decide), take_all]; rfl)
  simpa [block_Bytes_l2] using this
theorem Bytes_l5 (x : Int) (l : List Int) (out : List Int) (hr : l.all refP = true) (hl : out.length + 10 * l.length ≤ 999999800) (hl2 : l.length < 1000000) :
    block_Bytes_l5 x l (out, 0) = some (.inl (l.foldl stepRef out, ad x 1)) := by
  have := loopO_nat (body := fun s => block_Bytes_b5 x l s.1 s.2) (fun k => ((l.take k).foldl stepRef out, (k : Int))) l.length (.inl (l.foldl stepRef out, ad x 1)) (fun k hk => by
    show block_Bytes_b5 _ _ _ _ = _
    unfold block_Bytes_b5
    dsimp only
    have h1 := getD_all hr 0 hk
    simp only [refP, Bool.and_eq_true, decide_eq_true_eq] at h1
    have hlen := len_fold stepRef List.length (fun _ => 10) stepRef_len (l.take k) out
    rw [sum_const] at hlen
    have h20 : 10 * (l.take k).length ≤ 10 * l.length := Nat.mul_le_mul_left _ (by rw [List.length_take]; omega)
    rw [dlt hk, if_pos rfl, ix_getD 0 hk, bind_some', turned_eq (by unfold I64; omega) (by omega), bind_some', ad_one (by omega), foldl_snoc stepRef _ _ 0 hk]
    rfl) (by
    show block_Bytes_b5 _ _ _ _ = _
    unfold block_Bytes_b5
    dsimp only
    rw [dnlt (Nat.lt_irrefl _), if_neg (by decide), take_all]; rfl)
  simpa [block_Bytes_l5] using this
theorem Bytes_l4 (x : Int) (l : List (List Int)) (out : List Int) (hr : l.all (fun r => r.all refP) = true) (hl : out.length + (10 * l.length + 10 * refsN l) ≤ 999999700) (hl2 : l.length < 1000000) (hl3 : refsN l < 1000000) :
    block_Bytes_l4 x l (out, 0) = some (.inl (l.foldl stepRing out, ad x 1)) := by
  have := loopO_nat (body := fun s => block_Bytes_b4 x l s.1 s.2) (fun k => ((l.take k).foldl stepRing out, (k : Int))) l.length (.inl (l.foldl stepRing out, ad x 1)) (fun k hk => by
    show block_Bytes_b4 _ _ _ _ = _
    unfold block_Bytes_b4
    dsimp only
    have h1 := getD_all hr [] hk
    have hlen := len_fold stepRing List.length (fun r => 10 + 10 * r.length) stepRing_len (l.take k) out
    rw [sum_lin] at hlen
    have h3 : (l.take k).length = k := by rw [List.length_take]; omega
    have h4 := sum_snoc List.length l [] hk
    have h5 := sum_le List.length l (k + 1)
    have h6 : (l.map List.length).sum = refsN l := rfl
    have hv := vb_len (l.getD k []).length
    rw [h3] at hlen
    rw [dlt hk, if_pos rfl, ix_getD [] hk, bind_some', put_eq (by omega) (by omega), bind_some', Bytes_l5 _ _ _ h1 (by rw [List.length_append]; omega) (by omega), ad_one (by omega), foldl_snoc stepRing _ _ [] hk]
    rfl) (by
    show block_Bytes_b4 _ _ _ _ = _
    unfold block_Bytes_b4
    dsimp only
    rw [dnlt (Nat.lt_irrefl _), if_neg (by decide), take_all]; rfl)
  simpa [block_Bytes_l4] using this
theorem sum_snoc2 {α : Type} (f : α → Nat) (l : List α) {k : Nat} (d : α) (h : k < l.length) : ((l.take k).map f).sum + f (l.getD k d) ≤ (l.map f).sum := by
  rw [← sum_snoc f l d h]; exact sum_le f l (k + 1)
theorem Bytes_l3 (n : NetP) (out : List Int) (hr : refsP n = true) (hl : out.length ≤ 10000000) (h1 : n.2.length ≤ 32) (h2 : ringsN n.2 ≤ 64) (h3 : refsNN n.2 ≤ 65536) :
    block_Bytes_l3 n (out, 0) = some (n.2.foldl stepFace out, 0) := by
  have := loopO_nat (body := fun s => block_Bytes_b3 n s.1 s.2) (fun k => ((n.2.take k).foldl stepFace out, (k : Int))) n.2.length (n.2.foldl stepFace out, (0 : Int)) (fun k hk => by
    show block_Bytes_b3 _ _ _ = _
    unfold block_Bytes_b3
    dsimp only
    have g1 := getD_all hr [] hk
    have hlen := faces_len (n.2.take k) out
    have g3 : (n.2.take k).length = k := by rw [List.length_take]; omega
    have g4 := sum_snoc2 List.length n.2 [] hk
    have g5 := sum_snoc2 refsN n.2 [] hk
    rw [g3] at hlen
    unfold ringsN refsNN at *
    have hv := vb_len (n.2.getD k []).length
    rw [dlt hk, if_pos rfl, ix_getD [] hk, bind_some', put_eq (by omega) (by omega), bind_some', Bytes_l4 _ _ _ g1 (by rw [List.length_append]; omega) (by omega) (by omega), ad_one (by omega), foldl_snoc stepFace _ _ [] hk]
    rfl) (by
    show block_Bytes_b3 _ _ _ = _
    unfold block_Bytes_b3
    dsimp only
    rw [dnlt (Nat.lt_irrefl _), if_neg (by decide), take_all]; rfl)
  simpa [block_Bytes_l3] using this
theorem arcs_may (l : List ((List Pt) × Int × Int)) (s : List Int × Pt) (h : l.all arcP = true) (hs : mayP s.2 = true) : mayP (l.foldl stepArc s).2 = true := by
  induction l generalizing s with
  | nil => exact hs
  | cons a l ih =>
    rw [List.all_cons, Bool.and_eq_true] at h
    have h1 := h.1
    unfold arcP at h1
    rw [Bool.and_eq_true] at h1
    exact ih _ h.2 (stepPt_may _ _ h1.2 hs)
theorem all_take {α : Type} {f : α → Bool} {l : List α} (h : l.all f = true) (k : Nat) : (l.take k).all f = true := by
  rw [List.all_eq_true] at h ⊢
  exact fun x hx => h x (List.mem_of_mem_take hx)
def pointsL (l : List ((List Pt) × Int × Int)) : Nat := (l.map fun a => a.1.length).sum
theorem Bytes_eq (n : NetP) (h : Fits n) : block_Bytes n = some (if checkP n = 0 then (bytesP n, 0) else ([], checkP n)) := by
  unfold block_Bytes
  rw [Check_eq n h, bind_some']
  by_cases hc : checkP n = 0
  · rw [if_pos hc, hc]
    show block_Bytes_1 _ _ >>= _ = _
    have hm : manyP n = false ∧ n.1.all arcP = true ∧ refsP n = true := by
      unfold checkP at hc
      split at hc
      · cases hc
      · rename_i h1
        split at hc
        · rename_i h2; rw [Bool.and_eq_true] at h2; exact ⟨by simpa using h1, h2.1, h2.2⟩
        · cases hc
    obtain ⟨hm, hA, hR⟩ := hm
    simp only [manyP, Bool.or_eq_false_iff, decide_eq_false_iff_not] at hm
    obtain ⟨⟨⟨⟨m1, m2⟩, m3⟩, m4⟩, m5⟩ := hm
    have hv0 := vb_len n.1.length
    show (block_Bytes_1 (n.1.length : Int) []).bind _ = _
    rw [put_eq (by omega) (by simp), bind_some', List.nil_append]
    have hb0 : ∀ k, k ≤ n.1.length → ((n.1.take k).foldl stepArc (vb n.1.length, (0, 0))).1.length ≤ (vb n.1.length).length + (30 * (n.1.take k).length + 20 * pointsL (n.1.take k)) := fun k hk => arcs_len (n.1.take k) (vb n.1.length, (0, 0))
    have := loopO_nat (body := fun s => block_Bytes_b1 n s.1 s.2.1 s.2.2) (fun k => (((n.1.take k).foldl stepArc (vb n.1.length, (0, 0))).1, ((n.1.take k).foldl stepArc (vb n.1.length, (0, 0))).2, (k : Int))) n.1.length (bytesP n, (0 : Int)) (fun k hk => by
      show block_Bytes_b1 _ _ _ _ = _
      unfold block_Bytes_b1
      dsimp only
      have g1 := getD_all hA ([], 0, 0) hk
      simp only [arcP, sideP, Bool.and_eq_true, decide_eq_true_eq] at g1
      obtain ⟨⟨⟨s1, s2⟩, s3, s4⟩, s5⟩ := g1
      have hlen := hb0 k (by omega)
      have g3 : (n.1.take k).length = k := by rw [List.length_take]; omega
      have g4 : pointsL (n.1.take k) + (n.1.getD k ([], 0, 0)).1.length ≤ pointsN n := sum_snoc2 (fun a : (List Pt) × Int × Int => a.1.length) n.1 ([], 0, 0) hk
      rw [g3] at hlen
      generalize ea : n.1.getD k ([], 0, 0) = a at *
      have v1 := vb_len a.2.1.toNat
      have v2 := vb_len a.2.2.toNat
      have v3 := vb_len a.1.length
      rw [dlt hk, if_pos rfl, ix_getD ([], 0, 0) hk, ea, bind_some', show a.2.1 = (a.2.1.toNat : Int) by omega, show a.2.2 = (a.2.2.toNat : Int) by omega, put_eq (by omega) (by omega), bind_some', put_eq (by omega) (by rw [List.length_append]; omega), bind_some', put_eq (by omega) (by simp only [List.length_append]; omega), bind_some',
        Bytes_l2 _ _ _ _ s5 (arcs_may _ _ (all_take hA k) (show mayP (0, 0) = true by decide)) (by simp only [List.length_append]; omega) (by omega), ad_one (by omega), foldl_snoc stepArc _ _ ([], 0, 0) hk, ea]
      rfl) (by
      show block_Bytes_b1 _ _ _ _ = _
      unfold block_Bytes_b1
      dsimp only
      have hlen := hb0 n.1.length (Nat.le_refl _)
      rw [take_all] at hlen
      have g6 : pointsL n.1 = pointsN n := rfl
      have v1 := vb_len n.2.length
      rw [dnlt (Nat.lt_irrefl _), if_neg (by decide), take_all, put_eq (by omega) (by omega), bind_some', Bytes_l3 _ _ hR (by rw [List.length_append]; omega) (by omega) (by omega) (by omega)]
      rfl)
    simpa [block_Bytes_l1] using this
  · rw [if_neg hc]
    rw [show (!decide (checkP n = 0)) = true by simp [hc], if_pos rfl]
end Go.Proofs.Ytaobbaohelpdgaa.Pl
