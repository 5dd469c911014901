/-
  Chapter 22, plainly: rows put together; parts. No program in sight.
-/
import Derived.Test.YthjcpojcpafbjaaP03
namespace Go.Proofs.Ythjcpojcpafbjaa.Pl

theorem law22_Same_eq (a b : List (List Pt)) (hn : a.length ≤ 1000000) (hr : ∀ x ∈ a, x.length ≤ 1000000) : law22_Same a b = some (decide (a = b)) := by
  unfold law22_Same law22_Same_l1
  by_cases hl : a.length = b.length
  · have hd : decide ((a.length : Int) = (b.length : Int)) = true := by simp only [decide_eq_true_eq]; omega
    simp only [hd, Bool.not_true, Bool.false_eq_true, if_false]
    have := loopO_all (body := fun s => law22_Same_b1 a b s) (fun k => (k : Int)) a.length (fun k => a.getD k [] = b.getD k []) true false (fun k hk hok => by
      unfold law22_Same_b1
      simp only [dlt hk, if_true, ix_getD [] hk, ix_getD [] (show k < b.length by omega), bind_some', law03_Same_eq _ _ (hr _ (getD_mem hk)), decide_eq_true hok, Bool.not_true, Bool.false_eq_true, if_false, ad_one (show k < 1000000000 by omega)]) (fun k hk hok => by
      unfold law22_Same_b1
      simp only [dlt hk, if_true, ix_getD [] hk, ix_getD [] (show k < b.length by omega), bind_some', law03_Same_eq _ _ (hr _ (getD_mem hk)), decide_eq_false hok, Bool.not_false]; rfl) (by
      unfold law22_Same_b1
      simp only [dnlt (Nat.lt_irrefl _)]; rfl)
    refine (show loopO _ _ = _ from this).trans ?_
    congr 1
    by_cases h : a = b
    · subst h
      rw [if_pos (fun _ _ => rfl), decide_eq_true rfl]
    · rw [if_neg (fun hh => h (ext_getD [] hl hh)), decide_eq_false h]
  · have hd : decide ((a.length : Int) = (b.length : Int)) = false := by simp only [decide_eq_false_iff_not]; omega
    simp only [hd, Bool.not_false, if_true]
    rw [decide_eq_false (fun h => hl (by rw [h]))]

/-! ### rows put together -/
def lst (l : List Pt) : Pt := l.getD (l.length - 1) (0, 0)
def jst (out : List (List Pt)) (p : List Pt) : List (List Pt) :=
  if p = [] then out else if out ≠ [] ∧ lst (out.getD (out.length - 1) []) = p.getD 0 (0, 0) then out.set (out.length - 1) (out.getD (out.length - 1) [] ++ p.drop 1) else out ++ [p]
def tot (l : List (List Pt)) : Nat := (l.map List.length).sum
theorem tot_append (l m : List (List Pt)) : tot (l ++ m) = tot l + tot m := by simp [tot]
theorem tot_mem {l : List (List Pt)} {x : List Pt} (h : x ∈ l) : x.length ≤ tot l := by
  induction l with
  | nil => simp at h
  | cons y l ih =>
    simp only [tot, List.map_cons, List.sum_cons]
    rcases List.mem_cons.1 h with rfl | h
    · omega
    · have := ih h; unfold tot at this; omega
theorem last_snoc {α : Type} {l : List α} (d : α) (h : l ≠ []) : l = l.take (l.length - 1) ++ [l.getD (l.length - 1) d] := by
  have hl : 0 < l.length := by cases l with
    | nil => exact absurd rfl h
    | cons _ _ => simp
  have := snoc_take (l := l) (k := l.length - 1) d (by omega)
  rw [show l.length - 1 + 1 = l.length by omega, List.take_length] at this
  exact this
theorem set_last {α : Type} {l : List α} (x : α) (h : l ≠ []) : l.set (l.length - 1) x = l.take (l.length - 1) ++ [x] := by
  have hl : 0 < l.length := by cases l with
    | nil => exact absurd rfl h
    | cons _ _ => simp
  rw [List.set_eq_take_append_cons_drop, if_pos (by omega), List.drop_of_length_le (by omega)]
theorem tot_set_last {out : List (List Pt)} (x : List Pt) (h : out ≠ []) : tot (out.set (out.length - 1) x) + (out.getD (out.length - 1) []).length = tot out + x.length := by
  rw [set_last x h]
  have h2 := congrArg tot (last_snoc [] h)
  rw [tot_append] at h2 ⊢
  simp only [tot, List.map_cons, List.map_nil, List.sum_cons, List.sum_nil] at h2 ⊢
  omega
theorem jst_tot (out : List (List Pt)) (p : List Pt) : tot (jst out p) ≤ tot out + p.length := by
  unfold jst
  split
  · omega
  · split
    · rename_i h1 h2
      have := tot_set_last (out.getD (out.length - 1) [] ++ p.drop 1) h2.1
      simp only [List.length_append, List.length_drop] at this
      omega
    · rw [tot_append]; simp [tot]
theorem jst_len (out : List (List Pt)) (p : List Pt) : (jst out p).length ≤ out.length + 1 := by
  unfold jst
  split
  · omega
  · split <;> simp
def NE (out : List (List Pt)) : Prop := ∀ x ∈ out, x ≠ []
theorem jst_ne {out : List (List Pt)} {p : List Pt} (h : NE out) : NE (jst out p) := by
  unfold jst
  split
  · exact h
  · rename_i hp
    split
    · rename_i h2
      rw [set_last _ h2.1]
      intro x hx
      rcases List.mem_append.1 hx with h3 | h3
      · exact h x (List.mem_of_mem_take h3)
      · rw [List.mem_singleton.1 h3]
        have hl : 0 < out.length := by
          cases out with
          | nil => exact absurd rfl h2.1
          | cons _ _ => simp
        have := h _ (getD_mem (d := []) (show out.length - 1 < out.length by omega))
        exact fun e => this (List.append_eq_nil_iff.1 e).1
    · intro x hx
      rcases List.mem_append.1 hx with h3 | h3
      · exact h x h3
      · rw [List.mem_singleton.1 h3]; exact hp
def joinL (l : List (List Pt)) : List (List Pt) := l.foldl jst []
theorem join_up {l : List (List Pt)} : ∀ k, tot (((l.take k).foldl jst [])) ≤ tot (l.take k) ∧ ((l.take k).foldl jst []).length ≤ k ∧ NE ((l.take k).foldl jst []) := by
  intro k
  induction k with
  | zero => simp [tot, NE]
  | succ k ih =>
    by_cases hk : k < l.length
    · rw [snoc_take [] hk, List.foldl_append, List.foldl_cons, List.foldl_nil, tot_append]
      refine ⟨?_, ?_, jst_ne ih.2.2⟩
      · have := jst_tot ((l.take k).foldl jst []) (l.getD k [])
        simp only [tot, List.map_cons, List.map_nil, List.sum_cons, List.sum_nil] at this ⊢
        have h1 := ih.1
        simp only [tot] at h1
        omega
      · have := jst_len ((l.take k).foldl jst []) (l.getD k [])
        omega
    · rw [List.take_of_length_le (by omega)] at ih ⊢
      exact ⟨ih.1, by omega, ih.2.2⟩
theorem tot_take {l : List (List Pt)} (k : Nat) : tot (l.take k) ≤ tot l := by
  have := congrArg tot (List.take_append_drop k l)
  rw [tot_append] at this
  omega
theorem put_last {α : Type} {l : List α} {x : α} (h : 0 < l.length) : put l ((l.length - 1 : Nat) : Int) x = some (l.set (l.length - 1) x) := put_nat (by omega)
theorem Join_eq (l : List (List Pt)) (hn : l.length ≤ 1000000) (ht : tot l ≤ 1000000) : lineclip_Join l = some (joinL l) := by
  unfold lineclip_Join lineclip_Join_l1
  have := loopO_nat (body := fun s => lineclip_Join_b1 l s.1 s.2) (fun k => ((l.take k).foldl jst [], (k : Int))) l.length (joinL l) (fun k hk => by
    obtain ⟨h1, h2, h3⟩ := join_up (l := l) k
    have h4 := tot_take (l := l) k
    unfold lineclip_Join_b1
    have hs : (l.take (k + 1)).foldl jst [] = jst ((l.take k).foldl jst []) (l.getD k []) := by rw [snoc_take [] hk, List.foldl_append]; rfl
    rw [hs]
    generalize (l.take k).foldl jst [] = out at h1 h2 h3 ⊢
    have hp : (l.getD k []).length ≤ 1000000 := Nat.le_trans (tot_mem (getD_mem hk)) ht
    simp only [dlt hk, if_true, ix_getD [] hk, bind_some']
    generalize l.getD k [] = p at hp
    have ek : ad (k : Int) 1 = ((k + 1 : Nat) : Int) := ad_one (by omega)
    unfold jst lineclip_Join_k2
    simp only [ek]
    by_cases hpn : p = []
    · subst hpn
      simp
    · have hp0 : 0 < p.length := List.length_pos_iff.2 hpn
      have hd0 : decide ((p.length : Int) = 0) = false := by simp only [decide_eq_false_iff_not]; omega
      simp only [hd0, Bool.false_eq_true, if_false, hpn]
      by_cases ho : out = []
      · subst ho
        have e1 : sb (([] : List (List Pt)).length : Int) 1 = -1 := by rw [sb_in (by simp)]; simp
        have e2 : decide ((0 : Int) ≤ -1) = false := by decide
        simp only [e1, e2, gd_false, bind_some', Bool.false_and, Bool.false_eq_true, if_false, ne_eq, not_true_eq_false, false_and]
        rw [app_at (by simp [capB]; omega), bind_some', app_at (by simp [capB]), bind_some']
        rfl
      · have ho0 : 0 < out.length := List.length_pos_iff.2 ho
        have hq : out.getD (out.length - 1) [] ≠ [] := h3 _ (getD_mem (by omega))
        have hq0 : 0 < (out.getD (out.length - 1) []).length := List.length_pos_iff.2 hq
        have hqt : (out.getD (out.length - 1) []).length ≤ tot out := tot_mem (getD_mem (by omega))
        have e1 : sb (out.length : Int) 1 = ((out.length - 1 : Nat) : Int) := sb_one (by omega) ho0
        have e2 : decide ((0 : Int) ≤ ((out.length - 1 : Nat) : Int)) = true := by simp only [decide_eq_true_eq]; omega
        have e3 : sb ((out.getD (out.length - 1) []).length : Int) 1 = (((out.getD (out.length - 1) []).length - 1 : Nat) : Int) := sb_one (by omega) hq0
        have e4 : ix p 0 = some (p.getD 0 (0, 0)) := ix_getD (i := 0) (0, 0) hp0
        simp only [e1, e2, gd_true, ix_getD [] (show out.length - 1 < out.length by omega), bind_some', e3, ix_getD (0, 0) (show (out.getD (out.length - 1) []).length - 1 < (out.getD (out.length - 1) []).length by omega), e4, Bool.true_and]
        by_cases hc : lst (out.getD (out.length - 1) []) = p.getD 0 (0, 0)
        · have hc' : decide ((out.getD (out.length - 1) []).getD ((out.getD (out.length - 1) []).length - 1) (0, 0) = p.getD 0 (0, 0)) = true := decide_eq_true hc
          have e5 : cut p 1 (p.length : Int) = some (p.drop 1) := cut_from (a := 1) (by omega)
          simp only [hc', if_true, e5, bind_some']
          rw [app_le (by rw [List.length_drop]; omega), bind_some', put_last ho0, bind_some', if_pos ⟨ho, hc⟩]
        · have hc' : decide ((out.getD (out.length - 1) []).getD ((out.getD (out.length - 1) []).length - 1) (0, 0) = p.getD 0 (0, 0)) = false := decide_eq_false hc
          simp only [hc', Bool.false_eq_true, if_false]
          rw [app_at (by simp [capB]; omega), bind_some', app_at (by simp [capB]; omega), bind_some', if_neg (fun h => hc h.2)]
          rfl) (by
    unfold lineclip_Join_b1
    simp only [dnlt (Nat.lt_irrefl _), List.take_length]; rfl)
  exact this
/-- The document's: rows that are done, and the one that goes on. -/
theorem refJoin_eq (l : List (List Pt)) (hn : l.length ≤ 1000000) (ht : tot l ≤ 1000000) : ref22_Join l = some (joinL l) := by
  unfold ref22_Join ref22_Join_l1
  have hst : ∀ out : List (List Pt), NE out → (if out = [] then ([] : List (List Pt)) else out.take (out.length - 1)) ++ (if lst [] = (0, 0) then [] else []) = (if out = [] then [] else out.take (out.length - 1)) := fun out _ => by simp
  clear hst
  have := loopO_nat (body := fun s => ref22_Join_b1 l s.1 s.2.1 s.2.2) (fun k => (((l.take k).foldl jst []).take (((l.take k).foldl jst []).length - 1), ((l.take k).foldl jst []).getD (((l.take k).foldl jst []).length - 1) [], (k : Int))) l.length (joinL l) (fun k hk => by
    obtain ⟨h1, h2, h3⟩ := join_up (l := l) k
    have h4 := tot_take (l := l) k
    unfold ref22_Join_b1
    have hs : (l.take (k + 1)).foldl jst [] = jst ((l.take k).foldl jst []) (l.getD k []) := by rw [snoc_take [] hk, List.foldl_append]; rfl
    rw [hs]
    generalize (l.take k).foldl jst [] = out at h1 h2 h3 ⊢
    have hp : (l.getD k []).length ≤ 1000000 := Nat.le_trans (tot_mem (getD_mem hk)) ht
    unfold ref22_Join_k3 ref22_Join_k2
    simp only [dlt hk, if_true, ix_getD [] hk, bind_some']
    generalize l.getD k [] = p at hp
    have ek : ad (k : Int) 1 = ((k + 1 : Nat) : Int) := ad_one (by omega)
    unfold jst
    simp only [ek]
    by_cases hpn : p = []
    · subst hpn
      simp
    · have hp0 : 0 < p.length := List.length_pos_iff.2 hpn
      have hd0 : decide ((p.length : Int) = 0) = false := by simp only [decide_eq_false_iff_not]; omega
      simp only [hd0, Bool.false_eq_true, if_false, hpn]
      by_cases ho : out = []
      · subst ho
        have e2 : decide ((0 : Int) < ((0 : Nat) : Int)) = false := by decide
        simp only [List.length_nil, Nat.zero_sub, List.take_nil, show ([] : List (List Pt)).getD 0 [] = [] from rfl, e2, gd_false, bind_some', Bool.false_and, Bool.false_eq_true, if_false, ne_eq, not_true_eq_false, false_and]
        rw [app_le (by simp only [List.length_nil]; omega), bind_some']
        rfl
      · have ho0 : 0 < out.length := List.length_pos_iff.2 ho
        have hq : out.getD (out.length - 1) [] ≠ [] := h3 _ (getD_mem (by omega))
        have hq0 : 0 < (out.getD (out.length - 1) []).length := List.length_pos_iff.2 hq
        have hqt : (out.getD (out.length - 1) []).length ≤ tot out := tot_mem (getD_mem (by omega))
        have e2 : decide ((0 : Int) < ((out.getD (out.length - 1) []).length : Int)) = true := by simp only [decide_eq_true_eq]; omega
        have e3 : sb ((out.getD (out.length - 1) []).length : Int) 1 = (((out.getD (out.length - 1) []).length - 1 : Nat) : Int) := sb_one (by omega) hq0
        have e4 : ix p 0 = some (p.getD 0 (0, 0)) := ix_getD (i := 0) (0, 0) hp0
        simp only [e2, gd_true, bind_some', e3, ix_getD (0, 0) (show (out.getD (out.length - 1) []).length - 1 < (out.getD (out.length - 1) []).length by omega), e4, Bool.true_and, if_true]
        by_cases hc : lst (out.getD (out.length - 1) []) = p.getD 0 (0, 0)
        · have hc' : decide ((out.getD (out.length - 1) []).getD ((out.getD (out.length - 1) []).length - 1) (0, 0) = p.getD 0 (0, 0)) = true := decide_eq_true hc
          have e5 : cut p 1 (p.length : Int) = some (p.drop 1) := cut_from (a := 1) (by omega)
          simp only [hc', if_true, e5, bind_some']
          rw [app_le (by simp only [List.length_nil]; omega), bind_some', app_le (by rw [List.length_drop, List.nil_append]; omega), bind_some', if_pos ⟨ho, hc⟩, List.length_set, List.take_set_of_le (Nat.le_refl _), getD_set (by omega), if_pos rfl]
          rfl
        · have hc' : decide ((out.getD (out.length - 1) []).getD ((out.getD (out.length - 1) []).length - 1) (0, 0) = p.getD 0 (0, 0)) = false := decide_eq_false hc
          simp only [hc', Bool.false_eq_true, if_false]
          rw [app_le (by rw [List.length_take, List.length_singleton]; omega), bind_some', app_le (by simp only [List.length_nil]; omega), bind_some', if_neg (fun h => hc h.2), ← last_snoc [] ho, List.length_append, List.length_singleton, Nat.add_sub_cancel, List.take_left, getD_append_right (Nat.le_refl _), Nat.sub_self]
          rfl) (by
    unfold ref22_Join_b1 ref22_Join_k4
    simp only [dnlt (Nat.lt_irrefl _), List.take_length]
    obtain ⟨h1, h2, h3⟩ := join_up (l := l) l.length
    rw [List.take_length] at h1 h2 h3
    unfold joinL
    generalize l.foldl jst [] = out at h1 h2 h3 ⊢
    by_cases ho : out = []
    · subst ho; rfl
    · have ho0 : 0 < out.length := List.length_pos_iff.2 ho
      have hq : out.getD (out.length - 1) [] ≠ [] := h3 _ (getD_mem (by omega))
      have hq0 : 0 < (out.getD (out.length - 1) []).length := List.length_pos_iff.2 hq
      have e2 : decide ((0 : Int) < ((out.getD (out.length - 1) []).length : Int)) = true := by simp only [decide_eq_true_eq]; omega
      simp only [e2, if_true, Bool.false_eq_true, if_false]
      rw [app_le (by rw [List.length_take, List.length_singleton]; omega), bind_some', ← last_snoc [] ho]
      rfl)
  exact this
/-- Rows that do not go on stay. -/
def Ch (l : List (List Pt)) : Prop := NE l ∧ ∀ k, k + 1 < l.length → lst (l.getD k []) ≠ (l.getD (k + 1) []).getD 0 (0, 0)
theorem lst_append {l m : List Pt} (h : m ≠ []) : lst (l ++ m) = lst m := by
  have : 0 < m.length := List.length_pos_iff.2 h
  unfold lst
  rw [List.length_append, getD_append_right (by omega)]
  congr 1; omega
theorem jst_ch {out : List (List Pt)} {p : List Pt} (h : Ch out) : Ch (jst out p) := by
  refine ⟨jst_ne h.1, ?_⟩
  unfold jst
  split
  · exact h.2
  · rename_i hp
    split
    · rename_i h2
      have ho0 : 0 < out.length := List.length_pos_iff.2 h2.1
      intro k hk
      rw [List.length_set] at hk
      rw [getD_set (by omega), if_neg (by omega), getD_set (by omega)]
      split
      · rename_i he
        have hq : out.getD (out.length - 1) [] ≠ [] := h.1 _ (getD_mem (by omega))
        have hq0 : 0 < (out.getD (out.length - 1) []).length := List.length_pos_iff.2 hq
        rw [getD_append_left hq0, he]
        exact h.2 k hk
      · exact h.2 k hk
    · rename_i h2
      intro k hk
      rw [List.length_append, List.length_singleton] at hk
      by_cases hk2 : k + 1 < out.length
      · rw [getD_append_left (by omega), getD_append_left hk2]; exact h.2 k hk2
      · rw [getD_append_left (by omega), getD_append_right (by omega), show k + 1 - out.length = 0 by omega, show k = out.length - 1 by omega]
        intro he
        refine h2 ⟨?_, he⟩
        intro e; subst e; simp at hk2 hk
theorem joinL_ch (l : List (List Pt)) : Ch (joinL l) := by
  have : ∀ out, Ch out → Ch (l.foldl jst out) := by
    induction l with
    | nil => exact fun _ h => h
    | cons p l ih => exact fun out h => ih _ (jst_ch h)
  exact this [] ⟨fun x hx => by simp at hx, fun k hk => by simp at hk⟩
theorem joinL_stays {l : List (List Pt)} (h : Ch l) : joinL l = l := by
  have : ∀ k, k ≤ l.length → (l.take k).foldl jst [] = l.take k := by
    intro k
    induction k with
    | zero => intro _; rfl
    | succ k ih =>
      intro hk
      rw [snoc_take [] (show k < l.length by omega), List.foldl_append, ih (by omega)]
      show jst (l.take k) (l.getD k []) = _
      unfold jst
      rw [if_neg (h.1 _ (getD_mem (by omega)))]
      split
      · rename_i h2
        exfalso
        have hk0 : 0 < k := by
          rcases Nat.eq_zero_or_pos k with h0 | h0
          · subst h0; exact (h2.1 rfl).elim
          · exact h0
        have e := h2.2
        rw [List.length_take, show min k l.length = k by omega, getD_take (by omega)] at e
        have := h.2 (k - 1) (by omega)
        rw [show k - 1 + 1 = k by omega] at this
        exact this e
      · rfl
  have h2 := this l.length (Nat.le_refl _)
  rw [List.take_length] at h2
  exact h2
theorem joinL_tot (l : List (List Pt)) : tot (joinL l) ≤ tot l ∧ (joinL l).length ≤ l.length := by
  have := join_up (l := l) l.length
  rw [List.take_length] at this
  exact ⟨this.1, this.2.1⟩
end Go.Proofs.Ythjcpojcpafbjaa.Pl
