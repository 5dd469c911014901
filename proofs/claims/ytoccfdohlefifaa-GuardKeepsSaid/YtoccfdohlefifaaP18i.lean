import Derived.Test.YtoccfdohlefifaaP18h
namespace Go.Proofs.Ytoccfdohlefifaa.Pl
set_option maxRecDepth 4000
open G3 (Ok4)
structure CK (a b c d : Pt) : Prop where
  ma : May a
  mb : May b
  mc : May c
  md : May d
  ab : a ≠ b
  cd : c ≠ d
  ok : Ok4 a b c d
theorem class_ck (a b c d : Pt) : ∃ r : Int × Int, seg_Class a b c d = some r ∧ ((r.2 = 0 ∧ (r.1 = 0 ∨ r.1 = 1)) ↔ CK a b c d) := by
  by_cases hm : May a ∧ May b ∧ May c ∧ May d
  · obtain ⟨ha, hb, hc, hd⟩ := hm
    by_cases hab : a = b
    · refine ⟨(0, 1), ?_, ⟨fun h => by simp at h, fun h => (h.ab hab).elim⟩⟩
      unfold seg_Class
      rw [Right_true (by simp) (by simp [ha, hb, hc, hd])]
      simp [hab]
    · by_cases hcd : c = d
      · refine ⟨(0, 1), ?_, ⟨fun h => by simp at h, fun h => (h.cd hcd).elim⟩⟩
        unfold seg_Class
        rw [Right_true (by simp) (by simp [ha, hb, hc, hd])]
        simp [hcd]
      · refine ⟨_, G3.seg_Class_eq ha hb hc hd hab hcd, ?_⟩
        have hk := G3.cls_ok (a := a) (b := b) (c := c) (d := d) hab hcd
        have e : (if G3.cls a b c d = 5 then ((5 : Int), (0 : Int)) else (G3.cls a b c d, 0)) = (G3.cls a b c d, 0) := by
          split
          · rename_i h; rw [h]
          · rfl
        rw [e]
        exact ⟨fun h => ⟨ha, hb, hc, hd, hab, hcd, hk.1 h.2⟩, fun h => ⟨rfl, hk.2 h.ok⟩⟩
  · refine ⟨(0, 5), ?_, ⟨fun h => by simp at h, fun h => (hm ⟨h.ma, h.mb, h.mc, h.md⟩).elim⟩⟩
    unfold seg_Class
    rw [Right_eq _ (by simp), decide_eq_false (by simpa using hm)]
    rfl
theorem ok4_sym {a b c d : Pt} (hab : a ≠ b) (hcd : c ≠ d) (h : Ok4 a b c d) : Ok4 c d a b := by
  rw [← G3.cls_ok hcd hab, G3.cls_sym hab hcd, G3.cls_ok hab hcd]; exact h
abbrev Eg := Pt × Pt
def Good (E : List Eg) : Prop := (∀ e ∈ E, e.1 ≠ e.2) ∧ E.Pairwise fun e f => CK f.1 f.2 e.1 e.2
theorem Good.snoc {E : List Eg} {x y : Pt} (h : Good E) (hxy : x ≠ y) (hc : ∀ e ∈ E, CK x y e.1 e.2) : Good (E ++ [(x, y)]) := by
  refine ⟨?_, ?_⟩
  · intro e he
    rcases List.mem_append.1 he with he | he
    · exact h.1 e he
    · rw [List.mem_singleton.1 he]; exact hxy
  · rw [List.pairwise_append]
    refine ⟨h.2, List.pairwise_singleton _ _, fun e he f hf => ?_⟩
    rw [List.mem_singleton.1 hf]; exact hc e he
theorem pw_any {α : Type} {R : α → α → Prop} {l : List α} (h : l.Pairwise R) {x y : α} (hx : x ∈ l) (hy : y ∈ l) (hn : x ≠ y) : R x y ∨ R y x := by
  induction l with
  | nil => cases hx
  | cons a l ih =>
    rw [List.pairwise_cons] at h
    rcases List.mem_cons.1 hx with h1 | h1 <;> rcases List.mem_cons.1 hy with h2 | h2
    · exact (hn (h1.trans h2.symm)).elim
    · rw [h1]; exact .inl (h.1 _ h2)
    · rw [h2]; exact .inr (h.1 _ h1)
    · exact ih h.2 h1 h2
theorem Good.two {E : List Eg} (h : Good E) {e f : Eg} (he : e ∈ E) (hf : f ∈ E) (hn : e ≠ f) : CK e.1 e.2 f.1 f.2 := by
  rcases pw_any h.2 he hf hn with q | q
  · exact ⟨q.mc, q.md, q.ma, q.mb, q.cd, q.ab, ok4_sym q.ab q.cd q.ok⟩
  · exact q
def edgL (p : List Pt) (k : Nat) : List Eg := (List.range k).map fun i => (p.getD i (0, 0), p.getD (i + 1) (0, 0))
def edgA (l : List Ar) : List Eg := l.flatMap fun a => edgL a.1 (a.1.length - 1)
theorem edgL_succ (p : List Pt) (k : Nat) : edgL p (k + 1) = edgL p k ++ [(p.getD k (0, 0), p.getD (k + 1) (0, 0))] := by
  unfold edgL; rw [List.range_succ, List.map_append]; rfl
theorem edgL_len (p : List Pt) (k : Nat) : (edgL p k).length = k := by unfold edgL; simp
theorem edgA_len (l : List Ar) : (edgA l).length ≤ total l := by
  unfold edgA total
  induction l with
  | nil => simp
  | cons a l ih =>
    simp only [List.flatMap_cons, List.length_append, List.map_cons, List.sum_cons, edgL_len]
    omega
theorem edgA_snoc (l : List Ar) (a : Ar) : edgA (l ++ [a]) = edgA l ++ edgL a.1 (a.1.length - 1) := by unfold edgA; simp
theorem b3_eq (E : List Eg) (k : Nat) (hk : k < 1000) (hE : E.length ≤ 1000) (x y : Pt) :
    ∃ r, law18_plain_l3 E (k : Int) x y 0 = some r ∧ (r = .inr (.inr ([], false)) ∨ (r = .inl (E ++ [(x, y)], ((k + 1 : Nat) : Int)) ∧ x ≠ y ∧ ∀ e ∈ E, CK x y e.1 e.2)) := by
  classical
  have := loopO_all (body := fun s => law18_plain_b3 E (k : Int) x y s) (fun j => (j : Int)) E.length (fun j => CK x y (E.getD j ((0, 0), (0, 0))).1 (E.getD j ((0, 0), (0, 0))).2) (if x = y then .inr (.inr ([], false)) else .inl (E ++ [(x, y)], ((k + 1 : Nat) : Int))) (.inr (.inr ([], false))) (fun j hj ho => by
    show law18_plain_b3 _ _ _ _ _ = _
    obtain ⟨r, hr, hc⟩ := class_ck x y (E.getD j ((0, 0), (0, 0))).1 (E.getD j ((0, 0), (0, 0))).2
    have hc' := hc.2 ho
    unfold law18_plain_b3
    rw [dlt hj, if_pos rfl, ix_getD ((0, 0), (0, 0)) hj, bind_some', bind_some', hr, bind_some', bind_some', ad_one (by omega)]
    have : (!decide (r.2 = 0) || (!decide (r.1 = 0) && !decide (r.1 = 1))) = false := by
      rw [decide_eq_true hc'.1]
      rcases hc'.2 with h | h <;> rw [h] <;> rfl
    rw [this, if_neg (by decide)]) (fun j hj ho => by
    show law18_plain_b3 _ _ _ _ _ = _
    obtain ⟨r, hr, hc⟩ := class_ck x y (E.getD j ((0, 0), (0, 0))).1 (E.getD j ((0, 0), (0, 0))).2
    unfold law18_plain_b3
    rw [dlt hj, if_pos rfl, ix_getD ((0, 0), (0, 0)) hj, bind_some', bind_some', hr, bind_some', bind_some']
    have : (!decide (r.2 = 0) || (!decide (r.1 = 0) && !decide (r.1 = 1))) = true := by
      have h' : ¬ (r.2 = 0 ∧ (r.1 = 0 ∨ r.1 = 1)) := fun h => ho (hc.1 h)
      by_cases h1 : r.2 = 0 <;> by_cases h2 : r.1 = 0 <;> by_cases h3 : r.1 = 1 <;> simp_all
    rw [this, if_pos rfl]; rfl) (by
    show law18_plain_b3 _ _ _ _ _ = _
    unfold law18_plain_b3
    rw [dnlt (Nat.lt_irrefl _), if_neg (by decide)]
    by_cases hxy : x = y
    · rw [decide_eq_true hxy, if_pos rfl, if_pos hxy]; rfl
    · rw [decide_eq_false hxy, if_neg (by decide), if_neg hxy, app_le (by simp; omega), bind_some', ad_one (by omega)]; rfl)
  refine ⟨_, this, ?_⟩
  by_cases hall : ∀ j, j < E.length → CK x y (E.getD j ((0, 0), (0, 0))).1 (E.getD j ((0, 0), (0, 0))).2
  · rw [if_pos hall]
    by_cases hxy : x = y
    · rw [if_pos hxy]; exact .inl rfl
    · rw [if_neg hxy]
      refine .inr ⟨rfl, hxy, fun e he => ?_⟩
      obtain ⟨j, hj, rfl⟩ := mem_getD (d := ((0, 0), (0, 0))) he
      exact hall j hj
  · rw [if_neg hall]; exact .inl rfl
theorem l2_eq (l : List Ar) (i : Nat) (hi : i < l.length) (hl : l.length ≤ 10) (ht : total l ≤ 200) (hG : Good (edgA (l.take i))) :
    ∃ r, law18_plain_l2 l (i : Int) (edgA (l.take i), 1) = some r ∧ (r = .inr ([], false) ∨ (r = .inl (edgA (l.take (i + 1)), ((i + 1 : Nat) : Int)) ∧ Good (edgA (l.take (i + 1))))) := by
  have hsn := total_snoc l hi
  have hln := edgA_len (l.take i)
  have es : edgA (l.take (i + 1)) = edgA (l.take i) ++ edgL (l.getD i ([], 0, 0)).1 ((l.getD i ([], 0, 0)).1.length - 1) := by
    rw [snoc_take ([], 0, 0) hi, edgA_snoc]
  generalize hp : l.getD i ([], 0, 0) = a at *
  refine loopO_rule (body := fun s => law18_plain_b2 l (i : Int) s.1 s.2) (fun s => ∃ k : Nat, 1 ≤ k ∧ (k ≤ a.1.length ∨ k = 1) ∧ s = (edgA (l.take i) ++ edgL a.1 (k - 1), (k : Int)) ∧ Good (edgA (l.take i) ++ edgL a.1 (k - 1))) (fun s => (1000 - s.2).toNat) _ ?_ ⟨1, by omega, .inr rfl, by simp [edgL], by simpa [edgL] using hG⟩
  rintro s ⟨k, h1, h2, rfl, hg⟩
  show (∃ s', law18_plain_b2 _ _ _ _ = _ ∧ _) ∨ ∃ r, law18_plain_b2 _ _ _ _ = _ ∧ _
  unfold law18_plain_b2
  simp only [ix_getD ([], 0, 0) hi, bind_some', hp]
  by_cases hk : k < a.1.length
  · rw [dlt hk, if_pos rfl, sb_one (by omega) (by omega), ix_getD (0, 0) (show k - 1 < a.1.length by omega), bind_some', ix_getD (0, 0) hk, bind_some']
    obtain ⟨r, hr, hc⟩ := b3_eq (edgA (l.take i) ++ edgL a.1 (k - 1)) k (by omega) (by rw [List.length_append, edgL_len]; omega) (a.1.getD (k - 1) (0, 0)) (a.1.getD k (0, 0))
    rw [hr]
    rcases hc with rfl | ⟨rfl, hxy, hall⟩
    · exact .inr ⟨_, rfl, .inl rfl⟩
    · have e : edgA (l.take i) ++ edgL a.1 (k - 1) ++ [(a.1.getD (k - 1) (0, 0), a.1.getD k (0, 0))] = edgA (l.take i) ++ edgL a.1 (k + 1 - 1) := by
        have := edgL_succ a.1 (k - 1)
        rw [show k - 1 + 1 = k by omega] at this
        rw [show k + 1 - 1 = k by omega, this, List.append_assoc]
      refine .inl ⟨_, rfl, ⟨k + 1, by omega, .inl (by omega), by rw [e], ?_⟩, ?_⟩
      · rw [← e]; exact hg.snoc hxy hall
      · show (1000 - ((k + 1 : Nat) : Int)).toNat < (1000 - (k : Int)).toNat
        omega
  · rw [dnlt hk, if_neg (by decide), ad_one (by omega)]
    have e : edgA (l.take (i + 1)) = edgA (l.take i) ++ edgL a.1 (k - 1) := by
      rw [es]
      have : a.1.length - 1 = k - 1 := by omega
      rw [this]
    refine .inr ⟨_, rfl, .inr ⟨?_, ?_⟩⟩
    · rw [e]
    · rw [e]; exact hg
theorem plain_eq (l : List Ar) (hl : l.length ≤ 10) (ht : total l ≤ 200) : ∃ r, law18_plain l = some r ∧ (r = ([], false) ∨ (r = (edgA l, true) ∧ Good (edgA l))) := by
  unfold law18_plain
  refine loopO_rule (body := fun s => law18_plain_b1 l s.1 s.2) (fun s => ∃ i : Nat, i ≤ l.length ∧ s = (edgA (l.take i), (i : Int)) ∧ Good (edgA (l.take i))) (fun s => (1000 - s.2).toNat) _ ?_ ⟨0, by omega, by simp [edgA], by simp [edgA, Good]⟩
  rintro s ⟨i, h1, rfl, hg⟩
  show (∃ s', law18_plain_b1 _ _ _ = _ ∧ _) ∨ ∃ r, law18_plain_b1 _ _ _ = _ ∧ _
  unfold law18_plain_b1
  by_cases hi : i < l.length
  · rw [dlt hi, if_pos rfl]
    obtain ⟨r, hr, hc⟩ := l2_eq l i hi hl ht hg
    rw [hr]
    rcases hc with rfl | ⟨rfl, hg'⟩
    · exact .inr ⟨_, rfl, .inl rfl⟩
    · refine .inl ⟨_, rfl, ⟨i + 1, by omega, rfl, hg'⟩, ?_⟩
      show (1000 - ((i + 1 : Nat) : Int)).toNat < (1000 - (i : Int)).toNat
      omega
  · rw [dnlt hi, if_neg (by decide)]
    have e : l.take i = l := List.take_of_length_le (by omega)
    rw [e] at hg ⊢
    exact .inr ⟨_, rfl, .inr ⟨rfl, hg⟩⟩
end Go.Proofs.Ytoccfdohlefifaa.Pl
