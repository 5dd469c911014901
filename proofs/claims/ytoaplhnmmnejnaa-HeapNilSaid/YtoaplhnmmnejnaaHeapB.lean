/-
  The heap of chapter 05, plainly: its calls. No program in sight.
-/
import Derived.Test.YtoaplhnmmnejnaaHeapA
namespace Go.Proofs.Ytoaplhnmmnejnaa

theorem perm_of_count {l m : List Et} (h : ∀ e, l.count e = m.count e) : l.Perm m := List.perm_iff_count.2 h
theorem Hp.top {l : List Et} (h : Hp l) : ∀ j, j < l.length → ¬ Lt3 (at3 l j) (at3 l 0) := by
  intro j
  induction j using Nat.strongRecOn with
  | _ j ih =>
    intro hj
    by_cases h0 : j = 0
    · rw [h0]; exact Lt3.irr _
    · exact Lt3.nlt (ih ((j - 1) / 2) (by omega) (by omega)) (h j (by omega) hj)
theorem Hp.min {l : List Et} (h : Hp l) {e : Et} (he : e ∈ l) : ¬ Lt3 e (at3 l 0) := by
  obtain ⟨i, hi, rfl⟩ := mem_getD (d := (0, 0, 0)) he
  exact h.top i hi
theorem Hp.nil : Hp [] := fun j _ h => by simp at h
theorem take_at {l : List Et} {n j : Nat} (h : j < n) : at3 (l.take n) j = at3 l j := getD_take h
theorem take_eq (l : List Et) (i : Nat) (hi : i < l.length) (hn : l.length ≤ 1000000) (hH : Hp l) : ∃ l', heap_list_take l i = some (at3 l i, l') ∧ Hp l' ∧ (at3 l i :: l').Perm l := by
  unfold heap_list_take
  have e1 : sb (l.length : Int) 1 = ((l.length - 1 : Nat) : Int) := by rw [sb_in (by omega)]; omega
  have hlast : l.length - 1 < l.length := by omega
  simp only [e1, ix_getD (0, 0, 0) hi, swap_eq hi hlast, bind_some', cut_to (show l.length - 1 ≤ (swp l i (l.length - 1)).length by rw [swp_len]; omega)]
  have hlen : ((swp l i (l.length - 1)).take (l.length - 1)).length = l.length - 1 := by rw [List.length_take, swp_len]; omega
  have hperm : (at3 l i :: (swp l i (l.length - 1)).take (l.length - 1)).Perm l := by
    refine perm_of_count fun e => ?_
    rw [← swp_count hi hlast e]
    have : swp l i (l.length - 1) = (swp l i (l.length - 1)).take (l.length - 1) ++ [at3 l i] := by
      have h1 := snoc_take (l := swp l i (l.length - 1)) (k := l.length - 1) (0, 0, 0) (by rw [swp_len]; omega)
      have h2 : (swp l i (l.length - 1)).getD (l.length - 1) (0, 0, 0) = at3 l i := by
        have := swp_at (j := l.length - 1) hi hlast
        unfold at3 at this ⊢
        rw [this, if_pos rfl]
      rw [h2, List.take_of_length_le (by rw [swp_len]; omega)] at h1
      exact h1
    conv => rhs; rw [this]
    rw [List.count_append, List.count_cons, List.count_singleton]
  by_cases hlt : i < l.length - 1
  · have hd : decide ((i : Int) < ((l.length - 1 : Nat) : Int)) = true := by simp only [decide_eq_true_eq]; omega
    simp only [hd, if_true]
    have hat : ∀ j, j < l.length - 1 → j ≠ i → at3 ((swp l i (l.length - 1)).take (l.length - 1)) j = at3 l j := by
      intro j hj hne
      rw [take_at hj, swp_at hi hlast, if_neg (by omega), if_neg hne]
    obtain ⟨l1, hs, hU, hl1, hc1⟩ := sink_eq ((swp l i (l.length - 1)).take (l.length - 1)) i (by omega) (by omega) ⟨fun j hj hjl hp hne => by
        unfold Edge
        rw [hat j (by omega) (hne rfl), hat _ (by omega) hp]
        exact hH j hj (by omega), fun c h0 hc hcl hcp => by
        rw [hat c (by omega) (by omega), hat _ (by omega) (by omega)]
        have h1 := hH c hc (by omega)
        have h2 := hH i h0 hi
        unfold Edge at h1 h2
        rw [hcp] at h1
        exact Lt3.nlt h2 h1⟩
    obtain ⟨l2, hr, hH2, hl2, hc2⟩ := rise_eq l1 i (by omega) (by omega) hU
    rw [hs, bind_some', hr, bind_some']
    refine ⟨l2, rfl, hH2, .trans (.cons _ (perm_of_count fun e => by rw [hc2, hc1])) hperm⟩
  · have hd : decide ((i : Int) < ((l.length - 1 : Nat) : Int)) = false := by simp only [decide_eq_false_iff_not]; omega
    simp only [hd]
    refine ⟨_, rfl, ?_, hperm⟩
    intro j hj hjl
    rw [hlen] at hjl
    unfold Edge
    rw [take_at hjl, take_at (by omega), swp_at hi hlast, swp_at hi hlast, if_neg (by omega), if_neg (by omega), if_neg (by omega), if_neg (by omega)]
    exact hH j hj (by omega)
theorem Len_eq (l : List Et) : heap_Heap_Len l = some (l.length : Int) := rfl
theorem Pop_nil : heap_Heap_Pop [] = some ((0, 0, 0), false, []) := rfl
theorem Pop_eq {l : List Et} (h0 : l ≠ []) (hn : l.length ≤ 1000000) (hH : Hp l) : ∃ l', heap_Heap_Pop l = some (at3 l 0, true, l') ∧ Hp l' ∧ (at3 l 0 :: l').Perm l := by
  have hl : 0 < l.length := by cases l with
    | nil => exact absurd rfl h0
    | cons _ _ => simp
  obtain ⟨l', h1, h2, h3⟩ := take_eq l 0 hl hn hH
  refine ⟨l', ?_, h2, h3⟩
  unfold heap_Heap_Pop
  rw [Len_eq, bind_some', if_neg (by simp only [decide_eq_true_eq]; omega), show (0 : Int) = ((0 : Nat) : Int) from rfl, h1]
  rfl
theorem Top_nil : heap_Heap_Top [] = some ((0, 0, 0), false) := rfl
theorem Top_eq {l : List Et} (h0 : 0 < l.length) : heap_Heap_Top l = some (at3 l 0, true) := by
  unfold heap_Heap_Top
  rw [Len_eq, bind_some', if_neg (by simp only [decide_eq_true_eq]; omega), show (0 : Int) = ((0 : Nat) : Int) from rfl, ix_getD (0, 0, 0) h0]
  rfl
theorem Push_eq (l h : List Et) (hH : Hp h) (hn : h.length + l.length ≤ 1000000) : ∃ h', heap_Heap_Push h l = some ((h'.length : Int), h') ∧ Hp h' ∧ h'.Perm (l ++ h) := by
  unfold heap_Heap_Push heap_Heap_Push_l1
  have key := loopO_rule (body := fun s => heap_Heap_Push_b1 l s.1 s.2) (fun s => ∃ k : Nat, s.2 = k ∧ k ≤ l.length ∧ Hp s.1 ∧ s.1.Perm (l.take k ++ h)) (fun s => l.length - s.2.toNat) (fun r => ∃ h' : List Et, r = ((h'.length : Int), h') ∧ Hp h' ∧ h'.Perm (l ++ h)) ?_ (s := (h, 0)) ⟨0, rfl, by omega, hH, by simp⟩
  · obtain ⟨r, h1, h', rfl, h2, h3⟩ := key; exact ⟨h', h1, h2, h3⟩
  rintro ⟨m, _⟩ ⟨k, rfl, hk, hH, hP⟩
  simp only at hk hH hP ⊢
  unfold heap_Heap_Push_b1
  by_cases hlt : k < l.length
  · have hml := hP.length_eq
    rw [List.length_append, List.length_take] at hml
    have hd : decide ((k : Int) < (l.length : Int)) = true := by simp only [decide_eq_true_eq]; omega
    simp only [hd, if_true, ix_getD (0, 0, 0) hlt, bind_some']
    rw [app_at (by simp [capB]; omega)]
    simp only [bind_some', heap_list_count]
    have e1 : sb (((m ++ [l.getD k (0, 0, 0)]).length : Nat) : Int) 1 = (m.length : Int) := by rw [List.length_append, sb_in (by simp; omega)]; simp
    rw [e1]
    obtain ⟨m', hr, hH', hl', hc'⟩ := rise_eq (m ++ [l.getD k (0, 0, 0)]) m.length (by simp) (by simp; omega) ⟨fun j hj hjl hne => by
        rw [List.length_append] at hjl
        simp only [List.length_singleton] at hjl
        unfold Edge at3
        rw [getD_append_left (by omega), getD_append_left (by omega)]
        exact hH j hj (by omega), fun c h0 hc hcl hcp => by
        rw [List.length_append] at hcl
        simp only [List.length_singleton] at hcl
        omega⟩
    rw [hr, bind_some']
    refine .inl ⟨_, rfl, ⟨k + 1, by simp only; rw [ad_in (by omega)]; omega, by omega, hH', ?_⟩, by simp only; rw [ad_in (by omega)]; omega⟩
    refine .trans (perm_of_count hc') ?_
    rw [snoc_take (0, 0, 0) hlt]
    have := hP.append_right [l.getD k (0, 0, 0)]
    refine this.trans ?_
    rw [List.append_assoc, List.append_assoc]
    exact .append_left _ List.perm_append_comm
  · have hd : decide ((k : Int) < (l.length : Int)) = false := by simp only [decide_eq_false_iff_not]; omega
    simp only [hd, heap_list_count]
    refine .inr ⟨_, rfl, m, rfl, hH, ?_⟩
    rw [List.take_of_length_le (by omega)] at hP
    exact hP
/-- One round of Drop. -/
theorem Drop_step (l h : List Et) (n : Int) (k : Nat) (hk : k < l.length) (hH : Hp h) (hn : h.length ≤ 1000000) (hl : l.length ≤ 1000000) (hnn : 0 ≤ n ∧ n ≤ 1000000) : ∃ h', heap_Heap_Drop_b1 l h n k = some (.inl (h', n + (if at3 l k ∈ h then 1 else 0), ((k + 1 : Nat) : Int))) ∧ Hp h' ∧ h'.Perm (h.erase (at3 l k)) := by
  unfold heap_Heap_Drop_b1
  have hd : decide ((k : Int) < (l.length : Int)) = true := by simp only [decide_eq_true_eq]; omega
  simp only [hd, if_true, ix_getD (0, 0, 0) hk, bind_some', Len_eq]
  unfold heap_Heap_Drop_l3
  have key := loopO_rule (body := fun s => heap_Heap_Drop_b3 h n (k : Int) (l.getD k (0, 0, 0)) (h.length : Int) s) (fun s => ∃ j : Nat, s = j ∧ j ≤ h.length ∧ at3 l k ∉ h.take j) (fun s => h.length - s.toNat) (fun r => ∃ h', r = .inl (h', n + (if at3 l k ∈ h then 1 else 0), ((k + 1 : Nat) : Int)) ∧ Hp h' ∧ h'.Perm (h.erase (at3 l k))) ?_ (s := 0) ⟨0, rfl, by omega, by simp⟩
  · obtain ⟨r, h1, h', rfl, h2, h3⟩ := key; exact ⟨h', h1, h2, h3⟩
  rintro _ ⟨j, rfl, hj, hno⟩
  have ek : ad (k : Int) 1 = ((k + 1 : Nat) : Int) := by rw [ad_in (by omega)]; omega
  have ej : ad (j : Int) 1 = ((j + 1 : Nat) : Int) := by rw [ad_in (by omega)]; omega
  have en : ad n 1 = n + 1 := ad_in (by omega)
  unfold heap_Heap_Drop_b3
  by_cases hlt : j < h.length
  · have hd : decide ((j : Int) < (h.length : Int)) = true := by simp only [decide_eq_true_eq]; omega
    simp only [hd, if_true, ix_getD (0, 0, 0) hlt, bind_some']
    by_cases he : at3 h j = at3 l k
    · have hd2 : decide (h.getD j (0, 0, 0) = l.getD k (0, 0, 0)) = true := decide_eq_true he
      obtain ⟨h', h1, h2, h3⟩ := take_eq h j hlt hn hH
      have hmem : at3 l k ∈ h := by rw [← he]; exact getD_mem hlt
      simp only [hd2, if_true, h1, bind_some', heap_Heap_Drop_k2, ek, en]
      refine .inr ⟨_, rfl, h', by rw [if_pos hmem], h2, ?_⟩
      rw [he] at h3
      exact (h3.trans (List.perm_cons_erase hmem)).cons_inv
    · have hd2 : decide (h.getD j (0, 0, 0) = l.getD k (0, 0, 0)) = false := decide_eq_false he
      simp only [hd2, ej]
      refine .inl ⟨_, rfl, ⟨j + 1, rfl, by omega, ?_⟩, by simp only [Int.toNat_natCast]; omega⟩
      rw [snoc_take (0, 0, 0) hlt]
      intro hc
      rcases List.mem_append.1 hc with hc | hc
      · exact hno hc
      · exact he (List.mem_singleton.1 hc).symm
  · have hd : decide ((j : Int) < (h.length : Int)) = false := by simp only [decide_eq_false_iff_not]; omega
    simp only [hd, heap_Heap_Drop_k2, ek]
    rw [List.take_of_length_le (by omega)] at hno
    refine .inr ⟨_, rfl, h, by rw [if_neg hno]; simp, hH, ?_⟩
    rw [List.erase_of_not_mem hno]
theorem Drop_two (a b : Et) (h : List Et) (hH : Hp h) (hn : h.length ≤ 1000000) : ∃ h', heap_Heap_Drop h [a, b] = some ((if a ∈ h then 1 else 0) + (if b ∈ h.erase a then 1 else 0), h') ∧ Hp h' ∧ h'.Perm ((h.erase a).erase b) := by
  unfold heap_Heap_Drop heap_Heap_Drop_l1
  obtain ⟨h1, e1, H1, P1⟩ := Drop_step [a, b] h 0 0 (by simp) hH hn (by simp) ⟨by omega, by omega⟩
  have e1' : heap_Heap_Drop_b1 [a, b] h 0 0 = _ := e1
  rw [loopO_inl (by exact e1')]
  have hl1 : h1.length ≤ 1000000 := by
    rw [P1.length_eq]
    exact Nat.le_trans List.length_erase_le hn
  obtain ⟨h2, e2, H2, P2⟩ := Drop_step [a, b] h1 (0 + if at3 [a, b] 0 ∈ h then 1 else 0) 1 (by simp) H1 hl1 (by simp) (by split <;> omega)
  rw [loopO_inl (by exact e2)]
  have e3 : heap_Heap_Drop_b1 [a, b] h2 ((0 + if at3 [a, b] 0 ∈ h then 1 else 0) + if at3 [a, b] 1 ∈ h1 then 1 else 0) ((1 + 1 : Nat) : Int) = some (.inr (((0 + if at3 [a, b] 0 ∈ h then 1 else 0) + if at3 [a, b] 1 ∈ h1 then 1 else 0), h2)) := rfl
  rw [loopO_inr (by exact e3)]
  refine ⟨h2, ?_, H2, P2.trans (P1.erase _)⟩
  have hm : at3 [a, b] 1 ∈ h1 ↔ b ∈ h.erase a := P1.mem_iff
  simp only [hm, show at3 [a, b] 0 = a from rfl, Int.zero_add]
def Srt (l : List Et) : Prop := l.Pairwise fun a b => ¬ Lt3 b a
theorem Srt.eq_ {l m : List Et} (h : Srt l) (h' : Srt m) (hp : l.Perm m) : l = m := List.Perm.eq_of_pairwise (fun _ _ _ _ h1 h2 => Lt3.eq_ h2 h1) h h' hp
theorem Sort_eq (l : List Et) (hn : l.length ≤ 1000000) : ∃ m, heap_Sort l = some m ∧ Srt m ∧ m.Perm l := by
  obtain ⟨h0, e0, H0, P0⟩ := Push_eq l [] Hp.nil (by simpa using hn)
  rw [List.append_nil] at P0
  unfold heap_Sort
  rw [e0, bind_some']
  have hst : ∃ x is h1, heap_Heap_Pop h0 = some (x, is, h1) ∧ Hp h1 ∧ (if is then (x :: h1).Perm l ∧ (∀ e ∈ h1, ¬ Lt3 e x) else l = []) := by
    by_cases hnil : h0 = []
    · subst hnil
      refine ⟨_, _, _, Pop_nil, Hp.nil, ?_⟩
      simp only [Bool.false_eq_true, if_false]
      exact P0.nil_eq.symm
    · obtain ⟨h1, e1, H1, P1⟩ := Pop_eq hnil (by rw [P0.length_eq]; exact hn) H0
      refine ⟨_, _, _, e1, H1, ?_⟩
      simp only [if_true]
      exact ⟨P1.trans P0, fun e he => H0.min (P1.subset (List.mem_cons_of_mem _ he))⟩
  obtain ⟨x, is, h1, e1, H1, hx⟩ := hst
  rw [e1, bind_some']
  unfold heap_Sort_l1
  refine loopO_rule (body := fun s => heap_Sort_b1 s.1 s.2.1 s.2.2.1 s.2.2.2) (fun s => Hp s.1 ∧ Srt s.2.1 ∧ if s.2.2.2 then (s.2.1 ++ s.2.2.1 :: s.1).Perm l ∧ (∀ e ∈ s.1, ¬ Lt3 e s.2.2.1) ∧ (∀ o ∈ s.2.1, ¬ Lt3 s.2.2.1 o) ∧ (∀ o ∈ s.2.1, ∀ e ∈ s.1, ¬ Lt3 e o) else s.2.1.Perm l) (fun s => if s.2.2.2 then s.1.length + 1 else 0) _ ?_ (s := (h1, [], x, is)) ?_
  · rintro ⟨h, out, x, is⟩ ⟨H, S, hI⟩
    simp only at H S hI
    unfold heap_Sort_b1
    cases is with
    | false =>
      simp only [Bool.false_eq_true, if_false] at hI ⊢
      exact .inr ⟨out, rfl, S, hI⟩
    | true =>
      simp only [if_true] at hI ⊢
      obtain ⟨hP, hx, ho, hoe⟩ := hI
      have hlen := hP.length_eq
      rw [List.length_append, List.length_cons] at hlen
      have S' : Srt (out ++ [x]) := List.pairwise_append.2 ⟨S, List.pairwise_singleton _ _, fun a ha b hb => by rw [List.mem_singleton.1 hb]; exact ho a ha⟩
      rw [app_at (by simp [capB]; omega), bind_some']
      by_cases hnil : h = []
      · subst hnil
        rw [Pop_nil, bind_some']
        refine .inl ⟨_, rfl, ⟨Hp.nil, S', ?_⟩, by simp⟩
        simp only [Bool.false_eq_true, if_false]
        exact hP
      · obtain ⟨h', e1, H1, P1⟩ := Pop_eq hnil (by omega) H
        rw [e1, bind_some']
        have hl1 := P1.length_eq
        rw [List.length_cons] at hl1
        refine .inl ⟨_, rfl, ⟨H1, S', ?_⟩, by simp; omega⟩
        have hm0 : at3 h 0 ∈ h := P1.subset (List.mem_cons_self ..)
        simp only [if_true]
        refine ⟨?_, fun e he => H.min (P1.subset (List.mem_cons_of_mem _ he)), fun o ho' => ?_, fun o ho' e he => ?_⟩
        · rw [List.append_assoc]
          exact (List.Perm.append_left _ (.cons _ P1)).trans hP
        · rcases List.mem_append.1 ho' with h2 | h2
          · exact hoe o h2 _ hm0
          · rw [List.mem_singleton.1 h2]; exact hx _ hm0
        · have he' := P1.subset (List.mem_cons_of_mem _ he)
          rcases List.mem_append.1 ho' with h2 | h2
          · exact hoe o h2 _ he'
          · rw [List.mem_singleton.1 h2]; exact hx _ he'
  · refine ⟨H1, List.Pairwise.nil, ?_⟩
    cases is with
    | false =>
      simp only [Bool.false_eq_true, if_false] at hx ⊢
      rw [hx]
    | true =>
      simp only [if_true] at hx ⊢
      exact ⟨hx.1, hx.2, fun o ho => absurd ho List.not_mem_nil, fun o ho => absurd ho List.not_mem_nil⟩
end Go.Proofs.Ytoaplhnmmnejnaa
