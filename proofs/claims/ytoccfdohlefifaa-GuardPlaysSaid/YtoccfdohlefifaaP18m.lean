import Derived.Test.YtoccfdohlefifaaP18l
namespace Go.Proofs.Ytoccfdohlefifaa.Pl
set_option maxRecDepth 4000
structure Rl (g : Gd) (m : Mr) (L : List Int) (n e : Nat) : Prop where
  gi : GI g L n
  lin : m.1 = L
  tk : g.2.2.2.1.map (·.1) = m.2.1
  tv : AllT g.2.2.2.1
  ek : g.2.2.2.2.map (·.1) = kE m
  ev : AllT g.2.2.2.2
  at_ : At g
  pl : m.2.1.length ≤ n
  el : m.2.2.length ≤ e
section
variable {g : Gd} {m : Mr} {L : List Int} {n e : Nat}
theorem Rl.hasP (h : Rl g m L n e) (p : Pt) : hasM g.2.2.2.1 p = true ↔ p ∈ m.2.1 := by rw [has_key h.tv, h.tk]
theorem Rl.hasE (h : Rl g m L n e) (k : Pt × Pt) : hasM g.2.2.2.2 k = true ↔ k ∈ kE m := by rw [has_key h.ev, h.ek]
theorem Rl.more (h : Rl g m L n e) {n' e' : Nat} (hn : n ≤ n') (he : e ≤ e') : Rl g m L n' e' := ⟨h.gi.more hn, h.lin, h.tk, h.tv, h.ek, h.ev, h.at_, Nat.le_trans h.pl hn, Nat.le_trans h.el he⟩
def putPR (m : Mr) (p : Pt) : Mr := if p ∈ m.2.1 then m else (m.1, m.2.1 ++ [p], m.2.2)
def putER (m : Mr) (q p : Pt) : Mr := if q = p ∨ btw q p ∈ kE m then m else (m.1, m.2.1, m.2.2 ++ [(q, p)])
def stepR (l : List Pt) (m : Mr) (k : Nat) : Mr := if 0 < k then putER (putPR m (l.getD k (0, 0))) (l.getD (k - 1) (0, 0)) (l.getD k (0, 0)) else putPR m (l.getD k (0, 0))
def arcR (m : Mr) (a : Ar) : Mr := (List.range a.1.length).foldl (stepR a.1) m
def newR (L : List Int) (l : List Ar) : Mr := l.foldl arcR (L, [], [])
theorem Rl.putP (h : Rl g m L n e) (p : Pt) : Rl (putP g p) (putPR m p) L (n + 1) e := by
  have hG := h.gi.putP p
  have hA := (putP_facts g p h.at_).1
  unfold Pl.putP putPR at *
  by_cases hp : p ∈ m.2.1
  · rw [if_pos hp]
    rw [if_pos ((h.hasP p).2 hp)] at hG hA ⊢
    exact h.more (by omega) (Nat.le_refl _)
  · rw [if_neg hp]
    rw [if_neg (fun q => hp ((h.hasP p).1 q))] at hG hA ⊢
    refine ⟨hG, h.lin, ?_, up_allT h.tv p, h.ek, h.ev, hA, ?_, h.el⟩
    · rw [up_keys, h.tk, if_neg hp]
    · have := h.pl; simp only [List.length_append, List.length_singleton]; omega
theorem Rl.putE (h : Rl g m L n e) (q p : Pt) : Rl (putE g q p) (putER m q p) L n (e + 1) := by
  have hG := h.gi.putE q p
  have hA := (putE_facts g q p h.at_).1
  unfold Pl.putE putER at *
  by_cases hp : q = p
  · rw [if_pos hp] at hG hA ⊢
    rw [if_pos (.inl hp)]
    exact h.more (Nat.le_refl _) (by omega)
  · rw [if_neg hp] at hG hA ⊢
    by_cases hk : btw q p ∈ kE m
    · rw [if_pos (.inr hk)]
      refine ⟨hG, h.lin, h.tk, h.tv, ?_, up_allT h.ev _, hA, h.pl, by have := h.el; omega⟩
      rw [up_keys, h.ek, if_pos hk]
    · rw [if_neg (by rintro (q1 | q1); exact hp q1; exact hk q1)]
      refine ⟨hG, h.lin, h.tk, h.tv, ?_, up_allT h.ev _, hA, h.pl, ?_⟩
      · rw [up_keys, h.ek, if_neg hk]
        unfold kE
        rw [List.map_append]; rfl
      · have := h.el; simp only [List.length_append, List.length_singleton]; omega
theorem Rl.step (h : Rl g m L n e) (l : List Pt) (k : Nat) : Rl (stepK l g k) (stepR l m k) L (n + 1) (e + 1) := by
  unfold stepK stepR
  by_cases h0 : 0 < k
  · rw [if_pos h0, if_pos h0]; exact (h.putP _).putE _ _
  · rw [if_neg h0, if_neg h0]; exact (h.putP _).more (Nat.le_refl _) (by omega)
theorem Rl.range (h : Rl g m L n e) (l : List Pt) : ∀ k : Nat, Rl ((List.range k).foldl (stepK l) g) ((List.range k).foldl (stepR l) m) L (n + k) (e + k)
  | 0 => h
  | k + 1 => by
    rw [List.range_succ, List.foldl_append, List.foldl_append]
    exact (Rl.range h l k).step l k
end
theorem Rl.arcs {L : List Int} : ∀ {g : Gd} {m : Mr} {n e : Nat} (l : List Ar), Rl g m L n e → Rl (l.foldl arcG g) (l.foldl arcR m) L (n + total l) (e + total l)
  | g, m, n, e, [], h => h
  | g, m, n, e, a :: l, h => by
    have := Rl.arcs l (h.range a.1 a.1.length)
    have e1 : n + total (a :: l) = n + a.1.length + total l := by unfold total; simp only [List.map_cons, List.sum_cons]; omega
    have e2 : e + total (a :: l) = e + a.1.length + total l := by unfold total; simp only [List.map_cons, List.sum_cons]; omega
    rw [e1, e2]; exact this
theorem Rl.nil (L : List Int) : Rl (([], [], []), L, [], [], []) (L, [], []) L 0 0 :=
  ⟨GI.nil L, rfl, rfl, fun e he => by simp at he, rfl, fun e he => by simp at he, fun p hp => by
    have : hasM ([] : List (Pt × Bool)) p = true := hp
    simp [hasM, lkM] at this, Nat.le_refl _, Nat.le_refl _⟩
theorem k4R (L : List Int) (l : List Ar) (i : Nat) (hi : i < l.length) (P P' : List Pt) (E : List (Pt × Pt)) (hE : E.length ≤ 900) (k : Nat) (hk : k < (l.getD i ([], 0, 0)).1.length) (hl : (l.getD i ([], 0, 0)).1.length ≤ 1000) :
    ref18_New_k4 L l (i : Int) E (k : Int) ((l.getD i ([], 0, 0)).1.getD k (0, 0)) P' = some (.inl (P', (if 0 < k then (putER (L, P', E) ((l.getD i ([], 0, 0)).1.getD (k - 1) (0, 0)) ((l.getD i ([], 0, 0)).1.getD k (0, 0))).2.2 else E), ((k + 1 : Nat) : Int))) := by
  unfold ref18_New_k4 ref18_New_k3
  rw [ix_getD ([], 0, 0) hi]
  generalize (l.getD i ([], 0, 0)) = a at *
  by_cases h0 : 0 < k
  · rw [decide_eq_true (show (0 : Int) < (k : Int) by omega), gd_true, bind_some', gd_true, sb_one (by omega) h0, ix_getD (0, 0) (show k - 1 < a.1.length by omega), bind_some', bind_some', if_pos h0]
    have hix := ix_getD ((0, 0) : Pt) (show k - 1 < a.1.length by omega)
    generalize a.1.getD (k - 1) (0, 0) = q at *
    generalize a.1.getD k (0, 0) = p
    unfold putER
    by_cases he : q = p
    · rw [decide_eq_true he, if_pos (.inl he)]
      simp only [Bool.not_true, Bool.and_false, gd_false, bind_some', Bool.false_and, Bool.false_eq_true, if_false, ad_one (show k < 1000000000 by omega)]
    · rw [decide_eq_false he]
      simp only [Bool.not_false, Bool.and_true, gd_true, bind_some', Bool.true_and]
      rw [hix, bind_some', refJoined_eq (L, P', E) q p (by show E.length ≤ 1000; omega), bind_some']
      by_cases hj : btw q p ∈ kE (L, P', E)
      · rw [decide_eq_true hj, if_pos (show q = p ∨ btw q p ∈ kE (L, P', E) from .inr hj)]
        simp only [Bool.not_true, Bool.false_eq_true, if_false, ad_one (show k < 1000000000 by omega)]
      · rw [decide_eq_false hj, if_neg (show ¬ (q = p ∨ btw q p ∈ kE (L, P', E)) from by rintro (q1 | q1); exact he q1; exact hj q1)]
        simp only [Bool.not_false, if_true, bind_some']
        rw [app_le (by simp only [List.length_cons, List.length_nil]; omega), bind_some', ad_one (by omega)]
  · rw [decide_eq_false (show ¬ (0 : Int) < (k : Int) by omega), if_neg h0]
    simp only [gd_false, bind_some', Bool.false_and, Bool.false_eq_true, if_false, ad_one (show k < 1000000000 by omega)]
theorem putER_fst (m : Mr) (q p : Pt) : (putER m q p).1 = m.1 ∧ (putER m q p).2.1 = m.2.1 := by unfold putER; split <;> exact ⟨rfl, rfl⟩
theorem putPR_fst (m : Mr) (p : Pt) : (putPR m p).1 = m.1 ∧ (putPR m p).2.2 = m.2.2 := by unfold putPR; split <;> exact ⟨rfl, rfl⟩
theorem stepR_eq (L : List Int) (l : List Ar) (i : Nat) (hi : i < l.length) (m : Mr) (hm : m.1 = L) (hP : m.2.1.length ≤ 900) (hE : m.2.2.length ≤ 900) (k : Nat) (hk : k < (l.getD i ([], 0, 0)).1.length) (hl : (l.getD i ([], 0, 0)).1.length ≤ 1000) :
    ref18_New_b2 L l (i : Int) m.2.1 m.2.2 (k : Int) = some (.inl ((stepR (l.getD i ([], 0, 0)).1 m k).2.1, (stepR (l.getD i ([], 0, 0)).1 m k).2.2, ((k + 1 : Nat) : Int))) := by
  have hmm : (L, m.2.1, m.2.2) = m := Prod.ext hm.symm rfl
  have key : ∀ P', P' = (putPR m ((l.getD i ([], 0, 0)).1.getD k (0, 0))).2.1 → ref18_New_k4 L l (i : Int) m.2.2 (k : Int) ((l.getD i ([], 0, 0)).1.getD k (0, 0)) P' = some (.inl ((stepR (l.getD i ([], 0, 0)).1 m k).2.1, (stepR (l.getD i ([], 0, 0)).1 m k).2.2, ((k + 1 : Nat) : Int))) := fun P' hP' => by
    rw [k4R L l i hi m.2.1 P' m.2.2 hE k hk hl]
    have e1 : (L, P', m.2.2) = putPR m ((l.getD i ([], 0, 0)).1.getD k (0, 0)) := by
      refine Prod.ext ?_ (Prod.ext hP' ?_)
      · rw [(putPR_fst _ _).1, hm]
      · rw [(putPR_fst _ _).2]
    unfold stepR
    by_cases h0 : 0 < k
    · rw [if_pos h0, if_pos h0, e1, (putER_fst _ _ _).2, hP']
    · rw [if_neg h0, if_neg h0, (putPR_fst _ _).2, hP']
  unfold ref18_New_b2
  rw [ix_getD ([], 0, 0) hi, bind_some', dlt hk, if_pos rfl, bind_some', ix_getD (0, 0) hk, bind_some', hmm, refHas_eq m _ (by omega), bind_some']
  by_cases hp : (l.getD i ([], 0, 0)).1.getD k (0, 0) ∈ m.2.1
  · rw [decide_eq_true hp, if_neg (by decide)]
    exact key _ (by unfold putPR; rw [if_pos hp])
  · rw [decide_eq_false hp, if_pos (by decide), app_le (by simp only [List.length_cons, List.length_nil]; omega), bind_some']
    exact key _ (by unfold putPR; rw [if_neg hp])
theorem arcR_eq (L : List Int) (l : List Ar) (i : Nat) (hi : i < l.length) {g : Gd} {m : Mr} {n e : Nat} (h : Rl g m L n e) (hn : n + (l.getD i ([], 0, 0)).1.length ≤ 900) (he : e + (l.getD i ([], 0, 0)).1.length ≤ 900) (hx : i < 1000) :
    ref18_New_l2 L l (i : Int) (m.2.1, m.2.2, 0) = some (.inl ((arcR m (l.getD i ([], 0, 0))).2.1, (arcR m (l.getD i ([], 0, 0))).2.2, ((i + 1 : Nat) : Int))) := by
  have := loopO_nat (body := fun s => ref18_New_b2 L l (i : Int) s.1 s.2.1 s.2.2) (fun k => (((List.range k).foldl (stepR (l.getD i ([], 0, 0)).1) m).2.1, ((List.range k).foldl (stepR (l.getD i ([], 0, 0)).1) m).2.2, (k : Int))) (l.getD i ([], 0, 0)).1.length (.inl ((arcR m (l.getD i ([], 0, 0))).2.1, (arcR m (l.getD i ([], 0, 0))).2.2, ((i + 1 : Nat) : Int))) (fun k hk => by
    dsimp only
    have hR := h.range (l.getD i ([], 0, 0)).1 k
    have h1 := hR.pl
    have h2 := hR.el
    rw [stepR_eq L l i hi _ hR.lin (by omega) (by omega) k hk (by omega), List.range_succ, List.foldl_append]; rfl) (by
    dsimp only
    unfold ref18_New_b2
    rw [ix_getD ([], 0, 0) hi, bind_some', dnlt (Nat.lt_irrefl _), if_neg (by decide), ad_one (by omega)]; rfl)
  exact this
theorem refNew_eq (L : List Int) (l : List Ar) (hl : l.length ≤ 100) (ht : total l ≤ 800) : ref18_New L l = some (newR L l) := by
  unfold ref18_New
  have := loopO_nat (body := fun s => ref18_New_b1 L l s.1 s.2.1 s.2.2) (fun k => ((newR L (l.take k)).2.1, (newR L (l.take k)).2.2, (k : Int))) l.length (newR L l) (fun k hk => by
    dsimp only
    have hR : Rl (newG L (l.take k)) (newR L (l.take k)) L (0 + total (l.take k)) (0 + total (l.take k)) := Rl.arcs _ (Rl.nil L)
    have h2 := total_snoc l hk
    have e : newR L (l.take (k + 1)) = arcR (newR L (l.take k)) (l.getD k ([], 0, 0)) := by
      unfold newR
      rw [snoc_take ([], 0, 0) hk, List.foldl_append]; rfl
    rw [e]
    unfold ref18_New_b1
    rw [dlt hk, if_pos rfl, arcR_eq L l k hk hR (by omega) (by omega) (by omega)]) (by
    dsimp only
    have hR : Rl (newG L (l.take l.length)) (newR L (l.take l.length)) L (0 + total (l.take l.length)) (0 + total (l.take l.length)) := Rl.arcs _ (Rl.nil L)
    have hlin := hR.lin
    unfold ref18_New_b1
    rw [dnlt (Nat.lt_irrefl _), if_neg (by decide)]
    rw [List.take_length] at hlin ⊢
    have e : (L, (newR L l).2.1, (newR L l).2.2) = newR L l := Prod.ext hlin.symm rfl
    exact congrArg (fun t => some (Sum.inr t)) e)
  exact this
theorem Ofs14_eq (l : List Ar) (hl : l.length ≤ 1000) (ht : total l ≤ 1000) : law14_Ofs l = some l := by
  unfold law14_Ofs
  have hlen : ∀ k, k < l.length → (l.getD k ([], 0, 0)).1.length ≤ 1000 := fun k hk => by have := total_snoc l hk; omega
  have := loopO_nat (body := fun s => law14_Ofs_b1 l s.1 s.2) (fun k => (l.take k, (k : Int))) l.length l (fun k hk => by
    show law14_Ofs_b1 _ _ _ = _
    unfold law14_Ofs_b1
    rw [dlt hk, if_pos rfl, ix_getD ([], 0, 0) hk, bind_some', Ofs_eq _ (by have := hlen k hk; omega), bind_some', bind_some', bind_some', app_le (by simp only [List.length_take, List.length_cons, List.length_nil]; omega), bind_some', ad_one (by omega), snoc_take ([], 0, 0) hk]) (by
    show law14_Ofs_b1 _ _ _ = _
    unfold law14_Ofs_b1
    rw [dnlt (Nat.lt_irrefl _), if_neg (by decide), List.take_length]; rfl)
  exact this
section
variable {g : Gd} {m : Mr} {L : List Int} {n e : Nat}
theorem Rl.why (h : Rl g m L n e) (a b c : Pt) : whyG g a b c = whyR m a b c := by
  have hf : ∀ p, hasM g.2.2.2.1 p = false ↔ p ∉ m.2.1 := fun p => by rw [← h.hasP p]; simp
  have e1 : NoEnds g a b c ↔ NoR m a b c := by
    unfold NoEnds NoR
    rw [hf, hf, hf]
    constructor
    · rintro (q | q | q | q)
      · exact .inl q
      · exact .inr (.inl q.symm)
      · exact .inr (.inr (.inl q))
      · exact .inr (.inr (.inr q))
    · rintro (q | q | q | q)
      · exact .inl q
      · exact .inr (.inl q.symm)
      · exact .inr (.inr (.inl q))
      · exact .inr (.inr (.inr q))
  unfold whyG whyR
  by_cases hN : NoR m a b c
  · rw [if_pos (e1.2 hN), if_pos hN]
  · rw [if_neg (fun q => hN (e1.1 q)), if_neg hN, h.gi.lin, h.lin]
    have hm : May a ∧ May b ∧ May c := Classical.byContradiction fun q => hN (.inr (.inr (.inr (.inl q))))
    have e2 : (∃ p ∈ g.2.2.1, Bad g a b c p) ↔ ∃ p ∈ m.2.1, Hit a b c p := by
      constructor
      · rintro ⟨p, _, q1, q2, q3, q4, q5, q6⟩
        exact ⟨p, (h.hasP p).1 q5, q2, q3, q4, q1.2.1.1, q6⟩
      · rintro ⟨p, hp, q1, q2, q3, q4, q5⟩
        have hh := (h.hasP p).2 hp
        exact ⟨p, h.at_ p hh, InT_box hm.1 hm.2.1 hm.2.2 q4 q5, q1, q2, q3, hh, q5⟩
    simp only [h.hasE, e2]
theorem whyR0 {a b c : Pt} (h : whyR m a b c = 0) : btw a c ∉ kE m := by
  unfold whyR at h
  intro hk
  split at h
  · omega
  · split at h
    · omega
    · omega
theorem Rl.drop (h : Rl g m L n e) {a b c : Pt} (h0 : whyR m a b c = 0) : Rl (dropG g a b c) (dropR m a b c) L n (e + 1) := by
  have hk := whyR0 h0
  have e1 : ((deM (deM g.2.2.2.2 (btw a b)) (btw b c)).map (·.1)) = (m.2.2.filter (keepE a b c)).map fun e => btw e.1 e.2 := by
    rw [de_keys _ (de_nodup h.gi.ende), de_keys _ h.gi.ende, h.ek]
    unfold kE
    rw [List.filter_map, List.filter_map, List.filter_filter]
    congr 1
    refine List.filter_congr fun x _ => ?_
    unfold keepE
    simp only [Function.comp]
    exact Bool.and_comm _ _
  refine ⟨h.gi.drop a b c, h.lin, ?_, de_allT h.tv b, ?_, up_allT (de_allT (de_allT h.ev _) _) _, ?_, ?_, ?_⟩
  · show (deM g.2.2.2.1 b).map (·.1) = m.2.1.filter (keepP b)
    rw [de_keys _ h.gi.tnd, h.tk]
    refine List.filter_congr fun x _ => ?_
    unfold keepP
    first | rfl | (rw [Bool.eq_iff_iff]; simp)
  · show (upM (deM (deM g.2.2.2.2 (btw a b)) (btw b c)) (btw a c) true).map (·.1) = (m.2.2.filter (keepE a b c) ++ [(a, c)]).map fun e => btw e.1 e.2
    rw [up_keys, e1, if_neg, List.map_append]; · rfl
    intro hm
    obtain ⟨x, hx, hb⟩ := List.mem_map.1 hm
    exact hk (List.mem_map.2 ⟨x, (List.mem_filter.1 hx).1, hb⟩)
  · intro p hp
    have hp' : hasM (deM g.2.2.2.1 b) p = true := hp
    rw [has_key (de_allT h.tv b), de_keys _ h.gi.tnd] at hp'
    exact h.at_ p ((has_key h.tv p).2 (List.mem_filter.1 hp').1)
  · show (m.2.1.filter (keepP b)).length ≤ n
    exact Nat.le_trans (List.length_filter_le _ _) h.pl
  · show (m.2.2.filter (keepE a b c) ++ [(a, c)]).length ≤ e + 1
    have := List.length_filter_le (keepE a b c) m.2.2
    have := h.el
    simp only [List.length_append, List.length_singleton]; omega
end
theorem erase_perm {α : Type} (d : α) : ∀ {l : List α} {q : Nat}, q < l.length → (l.getD q d :: l.eraseIdx q).Perm l
  | [], q, h => by simp at h
  | x :: l, 0, _ => by simp
  | x :: l, q + 1, h => by
    rw [List.getD_cons_succ, List.eraseIdx_cons_succ]
    exact (List.Perm.swap _ _ _).trans ((erase_perm d (by simpa using h)).cons x)
theorem isort_perm_eq {l k : List Pt} (h : l.Perm k) : isort ltP l = isort ltP k :=
  List.Perm.eq_of_pairwise (le := fun a b => ltP b a = false) (fun a b _ _ h1 h2 => ltP_anti h2 h1) (isort_inc wkP _) (isort_inc wkP _) ((isort_perm l).trans (h.trans (isort_perm k).symm))
theorem points_run : ∀ (n : Nat) (out : List Pt) (D : List (Pt × Bool)), D.length = n → out.length + n ≤ 1000 →
    runQ (fun (s : List Pt × List (Pt × Bool)) => (s.2).length) (fun s q => guard_Guard_Points_b1 s.1 s.2 q) (n + 1) (out, D) (isort ltP (out ++ D.map (·.1)))
  | 0, out, D, hD, ho => by
    intro q hq
    have hq0 : q = 0 := by have : q < D.length ∨ D.length = 0 ∧ q = 0 := hq; omega
    left
    have hnil := List.length_eq_zero_iff.1 hD
    subst hq0
    rw [hnil]
    show guard_Guard_Points_b1 out [] 0 = _
    unfold guard_Guard_Points_b1
    rw [if_neg (by decide), Points_eq _ (by omega), bind_some', List.map_nil, List.append_nil]; rfl
  | n + 1, out, D, hD, ho => by
    intro q hq
    have hq0 : q < D.length := by have : q < D.length ∨ D.length = 0 ∧ q = 0 := hq; omega
    right
    refine ⟨(out ++ [(D.getD q ((0, 0), false)).1], D.eraseIdx q), ?_, ?_⟩
    · show guard_Guard_Points_b1 out D q = _
      unfold guard_Guard_Points_b1
      rw [decide_eq_true hq0, if_pos rfl, bind_some', app_le (by simp only [List.length_cons, List.length_nil]; omega), bind_some']
    · have hp := erase_perm ((0, 0), false) hq0
      have ih := points_run n (out ++ [(D.getD q ((0, 0), false)).1]) (D.eraseIdx q) (by rw [List.length_eraseIdx_of_lt hq0]; omega) (by simp only [List.length_append, List.length_singleton]; omega)
      have e1 : isort ltP ((out ++ [(D.getD q ((0, 0), false)).1]) ++ (D.eraseIdx q).map (·.1)) = isort ltP (out ++ D.map (·.1)) := by
        refine isort_perm_eq ?_
        rw [List.append_assoc]
        exact (hp.map (·.1)).append_left out
      rw [← e1]
      exact ih
theorem gPoints_eq (g : Gd) (h : g.2.2.2.1.length ≤ 900) : guard_Guard_Points g = some (isort ltP (g.2.2.2.1.map (·.1))) := by
  unfold guard_Guard_Points guard_Guard_Points_l1
  have := points_run g.2.2.2.1.length [] g.2.2.2.1 rfl (by simp only [List.length_nil]; omega)
  rw [List.nil_append] at this
  exact loopQ_mk this
theorem gHas_eq (g : Gd) (p : Pt) : guard_Guard_Has g p = some (hasM g.2.2.2.1 p) := by
  unfold guard_Guard_Has hasM
  rw [bind_some', Bool.true_and]
theorem gJoined_eq (g : Gd) (a b : Pt) : guard_Guard_Joined g a b = some (hasM g.2.2.2.2 (btw a b)) := by
  unfold guard_Guard_Joined hasM
  rw [gd_true, between_eq, bind_some', bind_some', Bool.true_and]
abbrev Act18 := Bool × Pt × Pt × Pt
def st18 (g : Gd) (m : Mr) (i : Nat) : List Bx × List (Pt × List Int) × List Int × List Int × List Pt × List (Pt × Bool) × List ((Pt × Pt) × Bool) × List Int × List Pt × List (Pt × Pt) × Int :=
  (g.1.1, g.1.2.1, g.1.2.2, g.2.1, g.2.2.1, g.2.2.2.1, g.2.2.2.2, m.1, m.2.1, m.2.2, (i : Int))
theorem k2_18 {g : Gd} {m : Mr} {L : List Int} {e : Nat} (h : Rl g m L 200 e) (he : e ≤ 900) (i : Nat) (hi : i < 1000) :
    law18_GuardPlays_k2 (i : Int) g.1.1 g.1.2.1 g.1.2.2 g.2.1 g.2.2.1 g.2.2.2.1 g.2.2.2.2 m.1 m.2.1 m.2.2 = some (.inl (st18 g m (i + 1))) := by
  have hpl := h.pl
  have hel := h.el
  have t1 : g.2.2.2.1.length = m.2.1.length := by have := congrArg List.length h.tk; simpa using this
  have t2 : g.2.2.2.2.length = m.2.2.length := by have := congrArg List.length h.ek; unfold kE at this; simpa using this
  unfold law18_GuardPlays_k2 guard_Guard_Edges
  show (some ((g.2.2.2.2.length : Int))).bind _ = _
  rw [bind_some', decide_eq_true (show ((g.2.2.2.2.length : Nat) : Int) = ((m.2.2.length : Nat) : Int) by rw [t2])]
  simp only [Bool.not_true, Bool.not_false, gd_true, Bool.false_or]
  show (guard_Guard_Points g).bind _ = _
  rw [gPoints_eq g (by omega), bind_some', refPoints_eq m.2.1 (by omega), bind_some', h.tk, law03_Same_eq _ _ (by rw [isort_len]; omega), decide_eq_true rfl, bind_some', bind_some', ad_one (by omega)]
  rfl
theorem step18 (acts : List Act18) {g : Gd} {m : Mr} {L : List Int} {e : Nat} (h : Rl g m L 200 e) (hr : Ris L) (hL : L.length ≤ 1000) (he : e ≤ 800) (i : Nat) (hi : i < acts.length) (hi2 : i < 40) :
    ∃ g' m', law18_GuardPlays_b1 acts g.1.1 g.1.2.1 g.1.2.2 g.2.1 g.2.2.1 g.2.2.2.1 g.2.2.2.2 m.1 m.2.1 m.2.2 (i : Int) = some (.inl (st18 g' m' (i + 1))) ∧ Rl g' m' L 200 (e + 1) := by
  have hpl := h.pl
  have hel := h.el
  have hlin := h.lin
  generalize hx : acts.getD i (false, (0, 0), (0, 0), (0, 0)) = act
  obtain ⟨d, a, b, c⟩ := act
  have hix : ix acts (i : Int) = some (d, a, b, c) := by rw [ix_getD (false, (0, 0), (0, 0), (0, 0)) hi, hx]
  have hw := h.why a b c
  have w1 : guard_Guard_Why g a b c = some (whyR m a b c) := by rw [Why_eq h.gi (Nat.le_refl _) hr hL, hw]
  have w2 : ref18_Why m a b c = some (whyR m a b c) := refWhy_eq m a b c (by rw [hlin]; exact hL) (by omega) (by omega)
  have w3 : guard_Guard_Has g a = ref18_Has m a := by
    rw [gHas_eq, refHas_eq m a (by omega)]
    congr 1
    rw [Bool.eq_iff_iff, h.hasP, decide_eq_true_iff]
  have w4 : guard_Guard_Joined g a b = ref18_Joined m a b := by
    rw [gJoined_eq, refJoined_eq m a b (by omega)]
    congr 1
    rw [Bool.eq_iff_iff, h.hasE, decide_eq_true_iff]
  unfold law18_GuardPlays_b1 law01_Of
  rw [dlt hi, decide_eq_true (show (i : Int) < 40 by omega), Bool.and_self, bind_some', if_pos rfl, hix]
  have hg : ((g.1.1, g.1.2.1, g.1.2.2), g.2.1, g.2.2.1, g.2.2.2.1, g.2.2.2.2) = g := rfl
  have hmm : (m.1, m.2.1, m.2.2) = m := rfl
  have w5 := refHas_eq m a (by omega)
  have w6 := refJoined_eq m a b (by omega)
  simp only [bind_some', hg, hmm, w1, w2, w3, w4, w5, w6, decide_true, Bool.not_true, Bool.not_false, gd_true, Bool.false_or, Bool.or_false, beq_self_eq_true, Bool.false_eq_true, if_false]
  cases d with
  | false =>
    simp only [Bool.false_eq_true, if_false]
    exact ⟨g, m, k2_18 h (by omega) i (by omega), h.more (Nat.le_refl _) (by omega)⟩
  | true =>
    simp only [if_true]
    have d1 : ref18_Drop m a b c = _ := refDrop_eq m a b c (by rw [hlin]; exact hL) (by omega) (by omega)
    have d2 : guard_Guard_Drop g a b c = _ := Drop_eq h.gi (Nat.le_refl _) hr hL a b c
    rw [d1, d2, hw, bind_some', bind_some']
    by_cases h0 : whyR m a b c = 0
    · rw [if_pos h0, if_pos h0]
      simp only [beq_self_eq_true, Bool.not_true, Bool.false_eq_true, if_false]
      have hd := h.drop h0
      exact ⟨_, _, k2_18 hd (by omega) i (by omega), hd⟩
    · rw [if_neg h0, if_neg h0]
      simp only [beq_self_eq_true, Bool.not_true, Bool.false_eq_true, if_false]
      exact ⟨g, m, k2_18 h (by omega) i (by omega), h.more (Nat.le_refl _) (by omega)⟩
theorem loop18 (acts : List Act18) {g : Gd} {m : Mr} {L : List Int} (h : Rl g m L 200 200) (hr : Ris L) (hL : L.length ≤ 1000) : law18_GuardPlays_l1 acts (st18 g m 0) = some true := by
  unfold law18_GuardPlays_l1
  obtain ⟨r, h1, h2⟩ := loopO_rule (body := fun s => law18_GuardPlays_b1 acts s.1 s.2.1 s.2.2.1 s.2.2.2.1 s.2.2.2.2.1 s.2.2.2.2.2.1 s.2.2.2.2.2.2.1 s.2.2.2.2.2.2.2.1 s.2.2.2.2.2.2.2.2.1 s.2.2.2.2.2.2.2.2.2.1 s.2.2.2.2.2.2.2.2.2.2)
    (fun s => ∃ (i : Nat) (g : Gd) (m : Mr), s = st18 g m i ∧ i ≤ 40 ∧ Rl g m L 200 (200 + i)) (fun s => 40 - s.2.2.2.2.2.2.2.2.2.2.toNat) (fun r => r = true) (fun s hs => by
      obtain ⟨i, g, m, rfl, hi, hR⟩ := hs
      by_cases hc : i < acts.length ∧ i < 40
      · left
        obtain ⟨g', m', hb, hR'⟩ := step18 acts hR hr hL (by omega) i hc.1 hc.2
        exact ⟨st18 g' m' (i + 1), hb, ⟨i + 1, g', m', rfl, by omega, hR'⟩, by simp only [st18, Int.toNat_natCast]; omega⟩
      · right
        refine ⟨true, ?_, rfl⟩
        show law18_GuardPlays_b1 acts g.1.1 g.1.2.1 g.1.2.2 g.2.1 g.2.2.1 g.2.2.2.1 g.2.2.2.2 m.1 m.2.1 m.2.2 (i : Int) = _
        unfold law18_GuardPlays_b1
        rw [show (decide ((i : Int) < (acts.length : Int)) && decide ((i : Int) < 40)) = false by
          rw [Bool.and_eq_false_iff, decide_eq_false_iff_not, decide_eq_false_iff_not]; omega, bind_some', if_neg (by decide), known18]; rfl) (s := st18 g m 0) ⟨0, g, m, rfl, by omega, h⟩
  rw [h1, h2]
theorem law18_GuardPlays_true (x0 : List Int) (x1 : List ((List (Int × Int)) × Int × Int)) (x2 : List (Bool × (Int × Int) × (Int × Int) × (Int × Int))) (k0 : ∀ y7 ∈ x0, I64 y7) (k1 : ∀ y8 ∈ x1, (∀ y9 ∈ y8.1, I64 y9.1 ∧ I64 y9.2) ∧ I64 y8.2.1 ∧ I64 y8.2.2) (k2 : ∀ y10 ∈ x2, True ∧ (I64 y10.2.1.1 ∧ I64 y10.2.1.2) ∧ (I64 y10.2.2.1.1 ∧ I64 y10.2.2.1.2) ∧ (I64 y10.2.2.2.1 ∧ I64 y10.2.2.2.2)) : law18_GuardPlays x0 x1 x2 = some true := by
  obtain ⟨L, hL, hr, hl⟩ := Lines_eq x0
  obtain ⟨c1, c2⟩ := cutA_total x1
  unfold law18_GuardPlays
  rw [hL, bind_some', Cut14_eq, bind_some', New18_eq L _ (by omega) (by omega) (by omega), bind_some', Ofs14_eq _ (by omega) (by omega), bind_some', refNew_eq L _ (by omega) (by omega), bind_some']
  have hR : Rl (newG L (cutA x1)) (newR L (cutA x1)) L 200 200 := (Rl.arcs _ (Rl.nil L)).more (by omega) (by omega)
  exact loop18 x2 hR hr (by omega)
end Go.Proofs.Ytoccfdohlefifaa.Pl
