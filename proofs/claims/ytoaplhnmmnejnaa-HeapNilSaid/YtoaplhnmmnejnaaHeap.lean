/-
  The three laws of chapter 05, plainly. No program in sight.
-/
import Derived.Test.YtoaplhnmmnejnaaHeapB
namespace Go.Proofs.Ytoaplhnmmnejnaa

/-! ### the document's list -/
theorem refPush_eq (l : List Et) (x : Et) (hS : Srt l) (hn : l.length ≤ 1000000) : ∃ m, ref05_Push l x = some m ∧ Srt m ∧ m.Perm (x :: l) := by
  unfold ref05_Push ref05_Push_l1
  refine loopO_rule (body := fun s => ref05_Push_b1 l x s) (fun s => ∃ k : Nat, s = k ∧ k ≤ l.length ∧ ∀ o ∈ l.take k, ¬ Lt3 x o) (fun s => l.length - s.toNat) _ ?_ (s := 0) ⟨0, rfl, by omega, by simp⟩
  rintro _ ⟨k, rfl, hk, ho⟩
  unfold ref05_Push_b1
  have hfin : ∀ hgt : (∀ o ∈ l.drop k, ¬ Lt3 o x), ∃ r, Option.map (Sum.inr (α := Int)) ((cut l 0 (k : Int)).bind fun x104 => (app ([] : List (Int × Int × Int)) x104).bind fun x106 => (app x106 [x]).bind fun x111 => (cut l (k : Int) (l.length : Int)).bind fun x117 => (app x111 x117).bind fun x119 => some x119) = some (.inr r) ∧ Srt r ∧ r.Perm (x :: l) := by
    intro hgt
    rw [cut_to hk, bind_some', app_at (by simp [capB]; omega), bind_some', app_at (by simp [capB]; omega), bind_some', cut_from hk, bind_some', app_at (by simp [capB]; omega)]
    refine ⟨_, rfl, ?_, ?_⟩
    · rw [List.nil_append, List.append_assoc]
      refine List.pairwise_append.2 ⟨hS.sublist (List.take_sublist ..), List.pairwise_append.2 ⟨List.pairwise_singleton _ _, hS.sublist (List.drop_sublist ..), fun a ha b hb => ?_⟩, fun a ha b hb => ?_⟩
      · rw [List.mem_singleton.1 ha]; exact hgt b hb
      · rcases List.mem_append.1 hb with h | h
        · rw [List.mem_singleton.1 h]; exact ho a ha
        · have := List.take_append_drop k l
          unfold Srt at hS
          rw [← this] at hS
          exact (List.pairwise_append.1 hS).2.2 a ha b h
    · rw [List.nil_append, List.append_assoc]
      refine List.perm_middle.trans (.cons _ ?_)
      show (List.take k l ++ List.drop k l).Perm l
      rw [List.take_append_drop]
  by_cases hlt : k < l.length
  · have hd : decide ((k : Int) < (l.length : Int)) = true := by simp only [decide_eq_true_eq]; omega
    simp only [hd, gd_true, ix_getD (0, 0, 0) hlt, bind_some', ref05_Less_eq, Bool.true_and]
    by_cases h : Lt3 x (at3 l k)
    · have hd2 : decide (Lt3 x (l.getD k (0, 0, 0))) = true := decide_eq_true h
      simp only [hd2]
      refine .inr (hfin ?_)
      intro o hoo
      have hS' : Srt (l.drop k) := hS.sublist (List.drop_sublist ..)
      rw [drop_cons (0, 0, 0) hlt] at hoo hS'
      rcases List.mem_cons.1 hoo with rfl | h2
      · exact Lt3.asym h
      · have := (List.pairwise_cons.1 hS').1 o h2
        exact Lt3.nlt (Lt3.asym h) this
    · have hd2 : decide (Lt3 x (l.getD k (0, 0, 0))) = false := decide_eq_false h
      have ek : ad (k : Int) 1 = ((k + 1 : Nat) : Int) := by rw [ad_in (by omega)]; omega
      simp only [hd2, ek]
      refine .inl ⟨_, rfl, ⟨k + 1, rfl, by omega, fun o hoo => ?_⟩, by simp only [Int.toNat_natCast]; omega⟩
      rw [snoc_take (0, 0, 0) hlt] at hoo
      rcases List.mem_append.1 hoo with h2 | h2
      · exact ho o h2
      · rw [List.mem_singleton.1 h2]; exact h
  · have hd : decide ((k : Int) < (l.length : Int)) = false := by simp only [decide_eq_false_iff_not]; omega
    simp only [hd, gd_false, bind_some', Bool.false_and]
    refine .inr (hfin ?_)
    rw [List.drop_of_length_le (by omega)]
    simp
theorem refDrop_eq (l : List Et) (x : Et) (hn : l.length ≤ 1000000) : ref05_Drop l x = some (l.erase x, decide (x ∈ l)) := by
  unfold ref05_Drop ref05_Drop_l1
  have key := loopO_rule (body := fun s => ref05_Drop_b1 l x s) (fun s => ∃ k : Nat, s = k ∧ k ≤ l.length ∧ x ∉ l.take k) (fun s => l.length - s.toNat) (fun r => r = (l.erase x, decide (x ∈ l))) ?_ (s := 0) ⟨0, rfl, by omega, by simp⟩
  · obtain ⟨r, h1, rfl⟩ := key; exact h1
  rintro _ ⟨k, rfl, hk, ho⟩
  unfold ref05_Drop_b1
  by_cases hlt : k < l.length
  · have hd : decide ((k : Int) < (l.length : Int)) = true := by simp only [decide_eq_true_eq]; omega
    have ek : ad (k : Int) 1 = ((k + 1 : Nat) : Int) := by rw [ad_in (by omega)]; omega
    simp only [hd, if_true, ix_getD (0, 0, 0) hlt, bind_some', ek]
    by_cases he : l.getD k (0, 0, 0) = x
    · have hd2 : decide (l.getD k (0, 0, 0) = x) = true := decide_eq_true he
      simp only [hd2, if_true]
      rw [cut_to hk, bind_some', app_at (by simp [capB]; omega), bind_some', cut_from (by omega), bind_some', app_at (by simp [capB]; omega)]
      refine .inr ⟨_, rfl, ?_⟩
      have hl : l = l.take k ++ x :: l.drop (k + 1) := by
        conv => lhs; rw [← List.take_append_drop k l, drop_cons (0, 0, 0) hlt, he]
      have hm : x ∈ l := by rw [← he]; exact getD_mem hlt
      rw [List.nil_append]
      refine Prod.ext ?_ (decide_eq_true hm).symm
      show l.take k ++ l.drop (k + 1) = l.erase x
      conv => rhs; rw [hl, List.erase_append_right _ ho, List.erase_cons_head]
    · have hd2 : decide (l.getD k (0, 0, 0) = x) = false := decide_eq_false he
      simp only [hd2]
      refine .inl ⟨_, rfl, ⟨k + 1, rfl, by omega, fun hc => ?_⟩, by simp only [Int.toNat_natCast]; omega⟩
      rw [snoc_take (0, 0, 0) hlt] at hc
      rcases List.mem_append.1 hc with h2 | h2
      · exact ho h2
      · exact he (List.mem_singleton.1 h2).symm
  · have hd : decide ((k : Int) < (l.length : Int)) = false := by simp only [decide_eq_false_iff_not]; omega
    simp only [hd]
    rw [List.take_of_length_le (by omega)] at ho
    exact .inr ⟨_, rfl, by rw [List.erase_of_not_mem ho, decide_eq_false ho]⟩
theorem same_eq (l : List Et) (hn : l.length ≤ 1000000) : law05_same l l = some true := by
  unfold law05_same law05_same_l1
  simp only [decide_true, Bool.not_true, Bool.false_eq_true, if_false]
  have key := loopO_rule (body := fun s => law05_same_b1 l l s) (fun s => ∃ k : Nat, s = k ∧ k ≤ l.length) (fun s => l.length - s.toNat) (fun r => r = true) ?_ (s := 0) ⟨0, rfl, by omega⟩
  · obtain ⟨r, h1, rfl⟩ := key; exact h1
  rintro _ ⟨k, rfl, hk⟩
  unfold law05_same_b1
  by_cases hlt : k < l.length
  · have hd : decide ((k : Int) < (l.length : Int)) = true := by simp only [decide_eq_true_eq]; omega
    have ek : ad (k : Int) 1 = ((k + 1 : Nat) : Int) := by rw [ad_in (by omega)]; omega
    simp only [hd, if_true, ix_getD (0, 0, 0) hlt, bind_some', ek, decide_true, Bool.not_true, Bool.false_eq_true, if_false]
    exact .inl ⟨_, rfl, ⟨k + 1, rfl, by omega⟩, by simp only [Int.toNat_natCast]; omega⟩
  · have hd : decide ((k : Int) < (l.length : Int)) = false := by simp only [decide_eq_false_iff_not]; omega
    simp only [hd]
    exact .inr ⟨_, rfl, rfl⟩
theorem head_min {h m : List Et} (H : Hp h) (S : Srt m) (P : h.Perm m) (h0 : 0 < m.length) : at3 h 0 = at3 m 0 := by
  cases m with
  | nil => simp at h0
  | cons y m =>
    have hl : 0 < h.length := by rw [P.length_eq]; exact h0
    have h1 : at3 h 0 ∈ y :: m := P.subset (getD_mem hl)
    have h2 : ¬ Lt3 y (at3 h 0) := H.min (P.symm.subset (List.mem_cons_self ..))
    refine Lt3.eq_ ?_ h2
    rcases List.mem_cons.1 h1 with h | h
    · rw [h]; exact Lt3.irr _
    · exact (List.pairwise_cons.1 S).1 _ h
theorem known_true : law05_known = some true := by
  unfold law05_known
  obtain ⟨h, e, H, P⟩ := Push_eq [(2, 0, 0), (1, 5, 0), (1, 4, 9)] [] Hp.nil (by simp)
  have hl := P.length_eq
  have hh : at3 h 0 = (1, 4, 9) := head_min (m := [(1, 4, 9), (1, 5, 0), (2, 0, 0)]) H (by simp [Srt, Lt3]) (P.trans (perm_of_count fun e => by simp [List.count_cons]; omega)) (by simp)
  rw [e, bind_some']
  obtain ⟨h', e', _, _⟩ := Pop_eq (l := h) (by intro hc; rw [hc] at hl; simp at hl) (by rw [hl]; simp) H
  rw [e', bind_some', hh, hl]
  rfl

/-! ### the laws -/
theorem law05_HeapNil_true (x0 : Int × Int × Int) (k0 : I64 x0.1 ∧ I64 x0.2.1 ∧ I64 x0.2.2) : law05_HeapNil x0 = some true := by
  unfold law05_HeapNil
  have hD : heap_DropNil [x0] = some 0 := by
    unfold heap_DropNil heap_DropNil_l1
    have e1 : heap_DropNil_b1 [x0] 0 = some (.inl 1) := by
      unfold heap_DropNil_b1 heap_DropNil_l2
      simp only [show decide ((0 : Int) < (([x0] : List Et).length : Int)) = true from rfl, if_true, show ix [x0] 0 = some x0 from rfl, bind_some']
      exact loopO_inr rfl
    rw [loopO_inl e1]
    exact loopO_inr rfl
  rw [known_true, bind_some', hD]
  rfl

theorem law05_HeapRises_true (x0 : List (Int × Int × Int)) (k0 : ∀ y2 ∈ x0, I64 y2.1 ∧ I64 y2.2.1 ∧ I64 y2.2.2) : law05_HeapRises x0 = some true := by
  unfold law05_HeapRises
  obtain ⟨l, hl, hl100⟩ : ∃ l, cut x0 0 (mn (x0.length : Int) 100) = some l ∧ l.length ≤ 100 := by
    have e : mn (x0.length : Int) 100 = ((min x0.length 100 : Nat) : Int) := by rw [mn_eq]; omega
    rw [e, cut_to (by omega)]
    exact ⟨_, rfl, by rw [List.length_take]; omega⟩
  obtain ⟨h0, e1, H0, P0⟩ := Push_eq l [] Hp.nil (by simp; omega)
  rw [List.append_nil] at P0
  obtain ⟨m, e2, S, P⟩ := Sort_eq l (by omega)
  have hml := P.length_eq
  rw [hl, bind_some', e1, bind_some', e2, bind_some']
  have hd : decide ((m.length : Int) = (l.length : Int)) = true := by simp only [decide_eq_true_eq]; omega
  simp only [hd, Bool.not_true, Bool.false_eq_true, if_false]
  unfold law05_HeapRises_l1
  have key := loopO_rule (body := fun s => law05_HeapRises_b1 l m s.1 s.2) (fun s => ∃ i : Nat, s.2 = i ∧ i ≤ m.length ∧ Hp s.1 ∧ s.1.Perm (m.drop i)) (fun s => m.length - s.2.toNat) (fun r => r = true) ?_ (s := (h0, 0)) ⟨0, rfl, by omega, H0, P0.trans P.symm⟩
  · obtain ⟨r, h1, rfl⟩ := key; exact h1
  rintro ⟨h, _⟩ ⟨i, rfl, hi, H, hP⟩
  simp only at hi H hP ⊢
  unfold law05_HeapRises_b1
  have hlen := hP.length_eq
  rw [List.length_drop] at hlen
  by_cases hlt : i < m.length
  · have hd : decide ((i : Int) < (m.length : Int)) = true := by simp only [decide_eq_true_eq]; omega
    obtain ⟨h', e3, H', P'⟩ := Pop_eq (l := h) (by intro hc; rw [hc] at hlen; simp at hlen; omega) (by omega) H
    have htop : at3 h 0 = at3 m i := by
      rw [head_min H (S.sublist (List.drop_sublist i m)) hP (by rw [List.length_drop]; omega)]
      unfold at3; rw [getD_drop]; rfl
    rw [htop] at e3 P'
    simp only [hd, if_true, e3, bind_some', Bool.not_true, Bool.not_false, gd_true, ix_getD (0, 0, 0) hlt, Bool.false_or, show m.getD i (0, 0, 0) = at3 m i from rfl, decide_true, Bool.true_and, decide_eq_true_eq]
    have hpre : ((gd (decide (0 < (i : Int))) (ix m (sb (i : Int) 1)) (0, 0, 0)).bind fun x1470 => (gd (decide (0 < (i : Int))) (heap_Less (at3 m i) x1470) false)) = some false := by
      by_cases hi0 : 0 < i
      · have hd3 : decide (0 < (i : Int)) = true := by simp only [decide_eq_true_eq]; omega
        have e4 : sb (i : Int) 1 = ((i - 1 : Nat) : Int) := by rw [sb_in (by omega)]; omega
        rw [hd3, gd_true, e4, ix_getD (0, 0, 0) (show i - 1 < m.length by omega), bind_some', gd_true, heap_Less_eq]
        have := (List.pairwise_iff_getElem.1 S) (i - 1) i (by omega) hlt (by omega)
        rw [decide_eq_false]
        simpa [at3, List.getD_eq_getElem?_getD, hlt, show i - 1 < m.length by omega] using this
      · have hd3 : decide (0 < (i : Int)) = false := by simp only [decide_eq_false_iff_not]; omega
        rw [hd3]; rfl
    have hg : gd (decide (0 < (i : Int))) (some (at3 m i)) (0, 0, 0) = some (if 0 < i then at3 m i else (0, 0, 0)) := by
      unfold gd
      by_cases hi0 : 0 < i
      · rw [if_pos (by simp only [decide_eq_true_eq]; omega), if_pos hi0]
      · rw [if_neg (by simp only [decide_eq_true_eq]; omega), if_neg hi0]
    have hpre' : ∃ r x, (gd (decide (0 < (i : Int))) (ix m (sb (i : Int) 1)) (0, 0, 0)) = some x ∧ gd (decide (0 < (i : Int))) (heap_Less (if 0 < i then at3 m i else (0, 0, 0)) x) false = some r ∧ (decide (0 < (i : Int)) && r) = false := by
      obtain ⟨x, h1, h2⟩ := obind hpre
      by_cases hi0 : 0 < i
      · rw [if_pos hi0]; exact ⟨false, x, h1, h2, by simp⟩
      · have hd3 : decide (0 < (i : Int)) = false := by simp only [decide_eq_false_iff_not]; omega
        refine ⟨false, x, h1, by rw [hd3]; rfl, by rw [hd3]; rfl⟩
    obtain ⟨r, x, h1, h2, h3⟩ := hpre'
    have hgd : (gd (decide (0 < (i : Int))) (ix m (i : Int)) (0, 0, 0)) = some (if 0 < i then at3 m i else (0, 0, 0)) := by
      rw [ix_getD (0, 0, 0) hlt]; exact hg
    simp only [hg, bind_some', h1, h2, h3, Bool.false_eq_true, if_false]
    have hin : law05_HeapRises_l2 l m (i : Int) (at3 m i, true, h') (0, 0, 0) = some (.inl (h', ((i + 1 : Nat) : Int))) := by
      unfold law05_HeapRises_l2
      have key := loopO_rule (body := fun s => law05_HeapRises_b2 l m (i : Int) (at3 m i, true, h') s.1 s.2.1 s.2.2) (fun s => ∃ k : Nat, s = (((l.take k).count (at3 m i) : Int), ((m.take k).count (at3 m i) : Int), (k : Int)) ∧ k ≤ l.length) (fun s => l.length - s.2.2.toNat) (fun r => r = .inl (h', ((i + 1 : Nat) : Int))) ?_ (s := (0, 0, 0)) ⟨0, rfl, by omega⟩
      · obtain ⟨r, h1, rfl⟩ := key; exact h1
      rintro _ ⟨k, rfl, hk⟩
      unfold law05_HeapRises_b2
      simp only
      by_cases hkl : k < l.length
      · have hd : decide ((k : Int) < (l.length : Int)) = true := by simp only [decide_eq_true_eq]; omega
        have ek : ad (k : Int) 1 = ((k + 1 : Nat) : Int) := by rw [ad_in (by omega)]; omega
        have hkm : k < m.length := by omega
        have c1 : ((l.take k).count (at3 m i)) ≤ k := Nat.le_trans List.count_le_length (by rw [List.length_take]; omega)
        have c2 : ((m.take k).count (at3 m i)) ≤ k := Nat.le_trans List.count_le_length (by rw [List.length_take]; omega)
        have s1 : (l.take (k + 1)).count (at3 m i) = (l.take k).count (at3 m i) + if l.getD k (0, 0, 0) = at3 m i then 1 else 0 := by
          rw [snoc_take (0, 0, 0) hkl, List.count_append, List.count_singleton]; simp
        have s2 : (m.take (k + 1)).count (at3 m i) = (m.take k).count (at3 m i) + if m.getD k (0, 0, 0) = at3 m i then 1 else 0 := by
          rw [snoc_take (0, 0, 0) hkm, List.count_append, List.count_singleton]; simp
        have a1 : ∀ n : Nat, n ≤ k → ad (n : Int) 1 = ((n + 1 : Nat) : Int) := fun n hn => by rw [ad_in (by omega)]; omega
        have hres : (if (decide (l.getD k (0, 0, 0) = at3 m i)) then (law05_HeapRises_k4 m (at3 m i, true, h') ((m.take k).count (at3 m i) : Int) (k : Int) (ad ((l.take k).count (at3 m i) : Int) 1)) else (law05_HeapRises_k4 m (at3 m i, true, h') ((m.take k).count (at3 m i) : Int) (k : Int) ((l.take k).count (at3 m i) : Int))) = some (.inl (((l.take (k + 1)).count (at3 m i) : Int), ((m.take (k + 1)).count (at3 m i) : Int), ((k + 1 : Nat) : Int))) := by
          unfold law05_HeapRises_k4
          simp only [ix_getD (0, 0, 0) hkm, bind_some', law05_HeapRises_k3, a1 _ c1, a1 _ c2, ek]
          rw [s1, s2]
          by_cases g1 : l.getD k (0, 0, 0) = at3 m i <;> by_cases g2 : m.getD k (0, 0, 0) = at3 m i <;> simp only [g1, g2, decide_true, decide_false, if_true, if_false, Bool.false_eq_true, Nat.add_zero]
        simp only [hd, if_true, ix_getD (0, 0, 0) hkl, bind_some']
        exact .inl ⟨_, hres, ⟨k + 1, rfl, by omega⟩, by simp only [Int.toNat_natCast]; omega⟩
      · have hd : decide ((k : Int) < (l.length : Int)) = false := by simp only [decide_eq_false_iff_not]; omega
        rw [List.take_of_length_le (by omega), List.take_of_length_le (by omega), P.count_eq]
        have ei : ad (i : Int) 1 = ((i + 1 : Nat) : Int) := by rw [ad_in (by omega)]; omega
        simp only [hd, decide_true, Bool.not_true, ei]
        exact .inr ⟨_, rfl, rfl⟩
    rw [hin]
    refine .inl ⟨_, rfl, ⟨i + 1, rfl, by omega, H', ?_⟩, by simp only [Int.toNat_natCast]; omega⟩
    have := P'.trans hP
    rw [drop_cons (0, 0, 0) hlt] at this
    exact this.cons_inv
  · have hd : decide ((i : Int) < (m.length : Int)) = false := by simp only [decide_eq_false_iff_not]; omega
    have hh : h = [] := List.length_eq_zero_iff.1 (by omega)
    subst hh
    simp only [hd, known_true, bind_some', gd_true, Len_eq]
    exact .inr ⟨_, rfl, rfl⟩

theorem plays_k2 (i : Nat) (x : Int × Et × Et) (h m : List Et) (hi : i < 80) (H : Hp h) (S : Srt m) (P : h.Perm m) (hn : m.length ≤ 1000) : law05_HeapPlays_k2 (i : Int) x h m = some (.inl (h, m, ((i + 1 : Nat) : Int))) := by
  unfold law05_HeapPlays_k2
  have hlen := P.length_eq
  obtain ⟨m', e2, S2, P2⟩ := Sort_eq h (by omega)
  have hm' : m' = m := Srt.eq_ S2 S (P2.trans P)
  subst hm'
  have eA : heap_Heap_All h = some m' := by unfold heap_Heap_All; rw [e2]; rfl
  have ei : ad (i : Int) 1 = ((i + 1 : Nat) : Int) := by rw [ad_in (by omega)]; omega
  have hT : ∃ t b, heap_Heap_Top h = some (t, b) ∧ b = decide (0 < (m'.length : Int)) ∧ (b = true → ix m' 0 = some t) := by
    by_cases h0 : 0 < h.length
    · refine ⟨_, _, Top_eq h0, ?_, fun _ => ?_⟩
      · rw [decide_eq_true]; omega
      · rw [head_min H S P (by omega)]
        exact ix_getD (i := 0) (0, 0, 0) (by omega)
    · have : h = [] := List.length_eq_zero_iff.1 (by omega)
      subst this
      refine ⟨_, _, Top_nil, ?_, fun hc => by cases hc⟩
      rw [decide_eq_false]; simp only [List.length_nil] at hlen; omega
  obtain ⟨t, b, eT, hb, hix⟩ := hT
  have hdl : decide ((h.length : Int) = (m'.length : Int)) = true := by simp only [decide_eq_true_eq]; omega
  rw [eT, bind_some', Len_eq, bind_some']
  simp only [hdl, Bool.not_true, Bool.not_false, gd_true, eA, bind_some', same_eq m' (by omega), Bool.false_or, ← hb, beq_self_eq_true, heap_Less_eq, ref05_Less_eq, Bool.true_and, ei]
  cases b with
  | false => simp
  | true => simp [hix rfl]

theorem law05_HeapPlays_true (x0 : List (Int × (Int × Int × Int) × (Int × Int × Int))) (k0 : ∀ y2 ∈ x0, I64 y2.1 ∧ (I64 y2.2.1.1 ∧ I64 y2.2.1.2.1 ∧ I64 y2.2.1.2.2) ∧ (I64 y2.2.2.1 ∧ I64 y2.2.2.2.1 ∧ I64 y2.2.2.2.2)) : law05_HeapPlays x0 = some true := by
  unfold law05_HeapPlays law05_HeapPlays_l1
  have key := loopO_rule (body := fun s => law05_HeapPlays_b1 x0 s.1 s.2.1 s.2.2) (fun s => ∃ i : Nat, s.2.2 = i ∧ i ≤ 80 ∧ Hp s.1 ∧ Srt s.2.1 ∧ s.1.Perm s.2.1 ∧ s.2.1.length ≤ 2 * i) (fun s => 80 - s.2.2.toNat) (fun r => r = true) ?_ (s := (([] : List (Int × Int × Int)), ([] : List (Int × Int × Int)), 0)) ⟨0, rfl, by omega, Hp.nil, List.Pairwise.nil, .refl _, by simp⟩
  · obtain ⟨r, h1, rfl⟩ := key; exact h1
  rintro ⟨h, m, _⟩ ⟨i, rfl, hi, H, S, P, hn⟩
  simp only at hi H S P hn ⊢
  have hlen := P.length_eq
  unfold law05_HeapPlays_b1
  by_cases hc : i < x0.length ∧ i < 80
  · have hd : (decide ((i : Int) < (x0.length : Int)) && decide ((i : Int) < 80)) = true := by simp; omega
    simp only [hd, bind_some', if_true, ix_getD (0, (0, 0, 0), (0, 0, 0)) hc.1]
    generalize x0.getD i (0, (0, 0, 0), (0, 0, 0)) = x
    have step : ∀ h' m' : List Et, Hp h' → Srt m' → h'.Perm m' → m'.length ≤ 2 * i + 2 → (∃ s', law05_HeapPlays_k2 (i : Int) x h' m' = some (.inl s') ∧ (∃ i : Nat, s'.2.2 = i ∧ i ≤ 80 ∧ Hp s'.1 ∧ Srt s'.2.1 ∧ s'.1.Perm s'.2.1 ∧ s'.2.1.length ≤ 2 * i) ∧ 80 - s'.2.2.toNat < 80 - (i : Int).toNat) := by
      intro h' m' H' S' P' hn'
      exact ⟨_, plays_k2 i x h' m' hc.2 H' S' P' (by omega), ⟨i + 1, rfl, by omega, H', S', P', by simp only; omega⟩, by simp only [Int.toNat_natCast]; omega⟩
    by_cases h0 : x.1 = 0
    · simp only [h0, decide_true, if_true]
      by_cases hnil : h = []
      · subst hnil
        have hm : m = [] := P.nil_eq.symm
        subst hm
        rw [Pop_nil]
        simp only [bind_some', List.length_nil]
        exact .inl (step [] [] H S P (by simp))
      · obtain ⟨h', e3, H', P'⟩ := Pop_eq hnil (by omega) H
        have hm0 : 0 < m.length := by
          rw [← hlen]
          cases h with
          | nil => exact absurd rfl hnil
          | cons _ _ => simp
        have hix : ix m 0 = some (at3 h 0) := by
          rw [head_min H S P hm0]; exact ix_getD (i := 0) (0, 0, 0) hm0
        have hcut : cut m 1 (m.length : Int) = some (m.drop 1) := cut_from (a := 1) (by omega)
        have hd2 : decide (0 < (m.length : Int)) = true := by simp only [decide_eq_true_eq]; omega
        rw [e3]
        simp only [bind_some', hd2, beq_self_eq_true, Bool.not_true, Bool.not_false, Bool.true_and, gd_true, hix, decide_true, Bool.false_or, Bool.false_and, Bool.or_self, Bool.false_eq_true, if_false, if_true, hcut]
        refine .inl (step h' (m.drop 1) H' (S.sublist (List.drop_sublist ..)) ?_ (by rw [List.length_drop]; omega))
        have := P'.trans P
        have hm : m = at3 h 0 :: m.drop 1 := by
          rw [head_min H S P hm0]
          exact (List.drop_zero (l := m)).symm.trans (drop_cons (0, 0, 0) hm0)
        rw [hm] at this
        exact this.cons_inv
    · simp only [h0, decide_false, Bool.false_eq_true, if_false]
      by_cases h1 : x.1 = 1
      · simp only [h1, decide_true, if_true]
        obtain ⟨h', e4, H', P'⟩ := Drop_two x.2.1 x.2.2 h H (by omega)
        have hl : law05_HeapPlays_l3 h (i : Int) x (m, 0, 0) = law05_HeapPlays_k2 (i : Int) x h' ((m.erase x.2.1).erase x.2.2) := by
          unfold law05_HeapPlays_l3
          have hm1 : x.2.1 ∈ h ↔ x.2.1 ∈ m := P.mem_iff
          have hm2 : x.2.2 ∈ h.erase x.2.1 ↔ x.2.2 ∈ m.erase x.2.1 := (P.erase _).mem_iff
          have l1 : (m.erase x.2.1).length ≤ m.length := List.length_erase_le
          have s1 : law05_HeapPlays_b3 h (i : Int) x m 0 0 = some (.inl (m.erase x.2.1, (if x.2.1 ∈ m then 1 else 0), 1)) := by
            unfold law05_HeapPlays_b3
            simp only [show decide ((0 : Int) < 2) = true from rfl, if_true, show ix [x.2.1, x.2.2] 0 = some x.2.1 from rfl, bind_some', refDrop_eq m _ (by omega : m.length ≤ 1000000), law05_HeapPlays_k4]
            by_cases g : x.2.1 ∈ m <;> simp [g] <;> rfl
          have s2 : ∀ n : Int, 0 ≤ n ∧ n ≤ 1 → law05_HeapPlays_b3 h (i : Int) x (m.erase x.2.1) n 1 = some (.inl ((m.erase x.2.1).erase x.2.2, n + (if x.2.2 ∈ m.erase x.2.1 then 1 else 0), 2)) := by
            intro n hnn
            unfold law05_HeapPlays_b3
            simp only [show decide ((1 : Int) < 2) = true from rfl, if_true, show ix [x.2.1, x.2.2] 1 = some x.2.2 from rfl, bind_some', refDrop_eq (m.erase x.2.1) _ (by omega : (m.erase x.2.1).length ≤ 1000000), law05_HeapPlays_k4]
            have : ad n 1 = n + 1 := ad_in (by omega)
            rw [this]
            by_cases g : x.2.2 ∈ m.erase x.2.1 <;> simp [g] <;> rfl
          have s3 : law05_HeapPlays_b3 h (i : Int) x ((m.erase x.2.1).erase x.2.2) ((if x.2.1 ∈ m then 1 else 0) + (if x.2.2 ∈ m.erase x.2.1 then 1 else 0)) 2 = Option.map Sum.inr (law05_HeapPlays_k2 (i : Int) x h' ((m.erase x.2.1).erase x.2.2)) := by
            unfold law05_HeapPlays_b3
            rw [if_neg (by decide), e4, bind_some']
            simp only [hm1, hm2, decide_true, Bool.not_true, Bool.false_eq_true, if_false]
          rw [loopO_inl (by exact s1), loopO_inl (by exact s2 _ (by split <;> simp)), loopO_eq]
          simp only [s3]
          cases law05_HeapPlays_k2 (i : Int) x h' ((m.erase x.2.1).erase x.2.2) with
          | none => rfl
          | some z => rfl
        rw [hl]
        refine .inl (step h' _ H' (S.sublist (List.Sublist.trans List.erase_sublist List.erase_sublist)) (P'.trans ((P.erase _).erase _)) ?_)
        have l1 : (m.erase x.2.1).length ≤ m.length := List.length_erase_le
        have l2 : ((m.erase x.2.1).erase x.2.2).length ≤ (m.erase x.2.1).length := List.length_erase_le
        omega
      · simp only [h1, decide_false, Bool.false_eq_true, if_false]
        obtain ⟨m1, e1, S1, P1⟩ := refPush_eq m x.2.1 S (by omega)
        have hl1 := P1.length_eq
        rw [List.length_cons] at hl1
        obtain ⟨m2, e2, S2, P2⟩ := refPush_eq m1 x.2.2 S1 (by omega)
        have hl2 := P2.length_eq
        rw [List.length_cons] at hl2
        obtain ⟨h', e3, H', P'⟩ := Push_eq [x.2.1, x.2.2] h H (by simp; omega)
        have hl3 := P'.length_eq
        simp only [List.length_append, List.length_cons, List.length_nil] at hl3
        have hd : decide ((h'.length : Int) = (m2.length : Int)) = true := by simp only [decide_eq_true_eq]; omega
        simp only [e1, e2, e3, bind_some', hd, Bool.not_true, Bool.false_eq_true, if_false]
        refine .inl (step h' m2 H' S2 ?_ (by omega))
        refine P'.trans (.trans ?_ P2.symm)
        refine List.Perm.trans ?_ (.cons _ P1.symm)
        exact .trans (.swap _ _ _) (.cons _ (.cons _ P))
  · have hd : (decide ((i : Int) < (x0.length : Int)) && decide ((i : Int) < 80)) = false := by
      rw [Bool.and_eq_false_iff]; simp only [decide_eq_false_iff_not]; omega
    simp only [hd, bind_some', known_true]
    exact .inr ⟨_, rfl, rfl⟩
end Go.Proofs.Ytoaplhnmmnejnaa
