import Derived.Test.YtopnbammdeimcaaP21d
namespace Go.Proofs.Ytopnbammdeimcaa.Pl
theorem fl_fl (y : Bool) (p : Pt) : fl y (fl y p) = p := by cases y <;> rfl
theorem far_iff (c : Int) (up y : Bool) (p : Pt) : 0 ≤ far c up y p ↔ if up then c ≤ (fl y p).1 else (fl y p).1 ≤ c := by
  unfold far
  by_cases h : (fl y p).1 = c
  · rw [if_pos h]; cases up <;> simp <;> omega
  · rw [if_neg h]
    by_cases h2 : c < (fl y p).1
    · rw [decide_eq_true h2]; cases up <;> simp <;> omega
    · rw [decide_eq_false h2]; cases up <;> simp <;> omega
def Btw (p a b : Pt) : Prop := (min a.1 b.1 ≤ p.1 ∧ p.1 ≤ max a.1 b.1) ∧ min a.2 b.2 ≤ p.2 ∧ p.2 ≤ max a.2 b.2
theorem Btw_fl {y : Bool} {p a b : Pt} (h : Btw p (fl y a) (fl y b)) : Btw (fl y p) a b := by
  unfold Btw fl at *
  cases y
  · exact h
  · simp only [if_true] at *; exact ⟨h.2, h.1⟩
theorem aty_between {p q : Pt} {c : Int} (h : Ct p.1 q.1 c) : min p.2 q.2 ≤ aty p q c ∧ aty p q c ≤ max p.2 q.2 := by
  unfold aty
  unfold Ct at h
  by_cases h1 : q.1 < p.1
  · rw [if_pos h1]
    have := atx_between (p := q) (q := p) (c := c) (by omega)
    omega
  · rw [if_neg h1]
    exact atx_between (by omega)
theorem hf_mem {c : Int} {up y : Bool} {l : List Pt} {p : Pt} (h : p ∈ hf c up y l) : (∃ e ∈ edg l, Btw p e.1 e.2) ∧ 0 ≤ far c up y p := by
  unfold hf at h
  rw [List.mem_flatMap] at h
  obtain ⟨e, he, hp⟩ := h
  unfold hfe at hp
  rw [List.mem_append] at hp
  rcases hp with hp | hp
  · by_cases h1 : 0 ≤ far c up y e.1
    · rw [if_pos h1, List.mem_singleton] at hp
      subst hp
      exact ⟨⟨e, he, by unfold Btw; omega⟩, h1⟩
    · rw [if_neg h1] at hp; exact absurd hp (by simp)
  · by_cases h1 : 0 ≤ far c up y e.1 * far c up y e.2
    · rw [if_pos h1] at hp; exact absurd hp (by simp)
    · rw [if_neg h1] at hp
      by_cases h2 : Ctp e.1 e.2 c y
      · rw [if_pos h2, List.mem_singleton] at hp
        subst hp
        unfold ctp
        rw [if_pos h2]
        have hb := aty_between h2.2
        refine ⟨⟨e, he, Btw_fl ?_⟩, ?_⟩
        · have := h2.2
          unfold Ct at this
          unfold Btw
          simp only
          omega
        · rw [far_on (by rw [fl_fl])]; exact Int.le_refl 0
      · rw [if_neg h2] at hp; exact absurd hp (by simp)
theorem hf_ok {c : Int} {up y : Bool} {l : List Pt} (h : Ok l) : Ok (hf c up y l) := by
  intro p hp
  obtain ⟨⟨e, he, hb⟩, _⟩ := hf_mem hp
  have hm := Ok_edg h he
  unfold May Btw at *
  omega
theorem hf_keeps {c c' : Int} {up y up' y' : Bool} {l : List Pt} (h : ∀ p ∈ l, 0 ≤ far c' up' y' p) : ∀ p ∈ hf c up y l, 0 ≤ far c' up' y' p := by
  intro p hp
  obtain ⟨⟨e, he, hb⟩, _⟩ := hf_mem hp
  have h1 := h _ (edg_mem he).1
  have h2 := h _ (edg_mem he).2
  rw [far_iff] at h1 h2 ⊢
  unfold Btw at hb
  unfold fl at *
  cases up' <;> cases y' <;> simp only [if_true, Bool.false_eq_true, if_false] at * <;> omega
theorem hfs_ok : ∀ (L : List (Int × Bool × Bool)) {l : List Pt}, Ok l → Ok (hfs L l)
  | [], _, h => h
  | s :: L, _, h => hfs_ok L (hf_ok (c := s.1) (up := s.2.1) (y := s.2.2) h)
theorem hfs_keeps {c : Int} {up y : Bool} : ∀ (L : List (Int × Bool × Bool)) {l : List Pt}, (∀ p ∈ l, 0 ≤ far c up y p) → ∀ p ∈ hfs L l, 0 ≤ far c up y p
  | [], _, h => h
  | s :: L, _, h => hfs_keeps L (hf_keeps (c := s.1) (up := s.2.1) (y := s.2.2) h)
theorem hfs_in : ∀ (L : List (Int × Bool × Bool)) (l : List Pt) s, s ∈ L → ∀ p ∈ hfs L l, 0 ≤ far s.1 s.2.1 s.2.2 p
  | [], _, s, h => absurd h (by simp)
  | t :: L, l, s, h => by
    rcases List.mem_cons.1 h with h | h
    · subst h
      exact hfs_keeps L (fun p hp => (hf_mem hp).2)
    · exact hfs_in L (hf t.1 t.2.1 t.2.2 l) s h
theorem hf_self {c : Int} {up y : Bool} {l : List Pt} (h : ∀ p ∈ l, 0 ≤ far c up y p) : hf c up y l = l := by
  rw [hf_flt fun e he => .inl (Int.mul_nonneg (h _ (edg_mem he).1) (h _ (edg_mem he).2))]
  exact List.filter_eq_self.2 fun p hp => by simpa using (show Up c up y p from h p hp)
theorem hfs_self : ∀ (L : List (Int × Bool × Bool)) {l : List Pt}, (∀ s ∈ L, ∀ p ∈ l, 0 ≤ far s.1 s.2.1 s.2.2 p) → hfs L l = l
  | [], _, _ => rfl
  | s :: L, l, h => by
    show hfs L (hf s.1 s.2.1 s.2.2 l) = l
    rw [hf_self (h s (by simp))]
    exact hfs_self L fun t ht => h t (by simp [ht])
instance (l : List Pt) (b : Bx) : Decidable (Whl l b) := by unfold Whl; infer_instance
def Cok (l : List Pt) (b : Bx) (i k : Nat) : Prop := ¬ Ctp (l.getD i (0, 0)) (l.getD ((i + 1) % l.length) (0, 0)) ((sds b).getD k (0, true, true)).1 ((sds b).getD k (0, true, true)).2.2
instance (l : List Pt) (b : Bx) (i k : Nat) : Decidable (Cok l b i k) := by unfold Cok; infer_instance
def CokA (l : List Pt) (b : Bx) (i : Nat) : Prop := ∀ k, k < 4 → Cok l b i k
instance (l : List Pt) (b : Bx) (i : Nat) : Decidable (CokA l b i) := by unfold CokA; infer_instance
theorem whole_l2 {l : List Pt} {b : Bx} (hn : l.length ≤ 1000) {i : Nat} (hi : i < l.length) : polyclip_Whole_l2 l (i : Int) (l.getD i (0, 0)) ((b.1.1, true, false), (b.2.1, false, false), (b.1.2, true, true), (b.2.2, false, true)) 0 =
    some (if CokA l b i then .inl ((i + 1 : Nat) : Int) else .inr false) := by
  unfold polyclip_Whole_l2
  have hb : ∀ k : Nat, k < 4 → polyclip_Whole_b2 l (i : Int) (l.getD i (0, 0)) ((b.1.1, true, false), (b.2.1, false, false), (b.1.2, true, true), (b.2.2, false, true)) (k : Int) =
      some (if Cok l b i k then .inl ((k + 1 : Nat) : Int) else .inr (.inr false)) := fun k hk => by
    unfold polyclip_Whole_b2
    rw [decide_eq_true (by omega), if_pos rfl]
    rw [show ix [(b.1.1, true, false), (b.2.1, false, false), (b.1.2, true, true), (b.2.2, false, true)] (k : Int) = some ((sds b).getD k (0, true, true)) from ix_getD (l := sds b) (0, true, true) (show k < (sds b).length from hk)]
    rw [bind_some', ad_one (by omega), rm_nat (by omega), bind_some', ix_getD (0, 0) (Nat.mod_lt _ (by omega)), bind_some', cut_eq, bind_some', ad_one (by omega)]
    by_cases h : Ctp (l.getD i (0, 0)) (l.getD ((i + 1) % l.length) (0, 0)) ((sds b).getD k (0, true, true)).1 ((sds b).getD k (0, true, true)).2.2
    · rw [if_neg (show ¬ Cok l b i k from not_not_intro h)]
      simp only [decide_eq_true h, if_true]; rfl
    · rw [if_pos (show Cok l b i k from h)]
      simp only [decide_eq_false h, Bool.false_eq_true, if_false]
  refine (show loopO _ _ = _ from loopO_all (body := fun s => polyclip_Whole_b2 l (i : Int) (l.getD i (0, 0)) ((b.1.1, true, false), (b.2.1, false, false), (b.1.2, true, true), (b.2.2, false, true)) s) (fun k => (k : Int)) 4 (fun k => Cok l b i k) (.inl ((i + 1 : Nat) : Int)) (.inr false)
    (fun k hk ho => by simp only [hb k hk, if_pos ho]) (fun k hk ho => by simp only [hb k hk, if_neg ho]) (by
      unfold polyclip_Whole_b2
      rw [decide_eq_false (by omega), if_neg Bool.false_ne_true, ad_one (by omega)]; rfl)).trans ?_
  rfl
theorem Whole_eq {l : List Pt} (b : Bx) (hn : l.length ≤ 1000) : polyclip_Whole l b = some (decide (Whl l b)) := by
  unfold polyclip_Whole
  by_cases h0 : l = []
  · subst h0
    rw [decide_eq_false (show ¬ Whl [] b from fun h => h.1 rfl)]; rfl
  have hpos : 0 < l.length := List.length_pos_iff.2 h0
  rw [decide_eq_false (show ¬ (l.length : Int) = 0 by omega), Ok_eq (by omega)]
  simp only [Bool.not_false, gd_true, bind_some', Bool.false_or]
  by_cases hk : Ok l
  case neg =>
    rw [decide_eq_false hk, decide_eq_false (show ¬ Whl l b from fun h => hk h.2.1)]; rfl
  rw [decide_eq_true hk]
  simp only [Bool.not_true, Bool.not_false, gd_true, rRight_eq, bind_some', Bool.false_or]
  by_cases hr : Rt b
  case neg =>
    rw [decide_eq_false hr, decide_eq_false (show ¬ Whl l b from fun h => hr h.2.2.1)]; rfl
  rw [decide_eq_true hr]
  simp only [Bool.not_true, Bool.false_eq_true, if_false]
  unfold polyclip_Whole_l1
  have hb : ∀ i, i < l.length → polyclip_Whole_b1 l b (i : Int) = some (if CokA l b i then .inl ((i + 1 : Nat) : Int) else .inr false) := fun i hi => by
    unfold polyclip_Whole_b1 polyclip_sides
    rw [decide_eq_true (by omega), if_pos rfl, ix_getD (0, 0) hi, bind_some', bind_some', whole_l2 hn hi]
  have := loopO_all (body := fun s => polyclip_Whole_b1 l b s) (fun k => (k : Int)) l.length (fun i => CokA l b i) true false
    (fun k hk ho => by simp only [hb k hk, if_pos ho]) (fun k hk ho => by simp only [hb k hk, if_neg ho]) (by
      unfold polyclip_Whole_b1
      rw [decide_eq_false (by omega), if_neg Bool.false_ne_true]; rfl)
  refine (show loopO _ _ = _ from this).trans ?_
  have hl := edg_len l
  by_cases h : Whl l b
  · rw [decide_eq_true h, if_pos]
    intro i hi k hk
    have he : (edg l).getD i ((0, 0), (0, 0)) ∈ edg l := getD_mem (by omega)
    have := h.2.2.2 _ he _ (getD_mem (d := (0, true, true)) (show k < (sds b).length from hk))
    rwa [edg_at hi] at this
  · rw [decide_eq_false h, if_neg]
    intro h'
    refine h ⟨h0, hk, hr, fun e he s hs => ?_⟩
    obtain ⟨i, hi, rfl⟩ := mem_getD (d := (((0, 0), (0, 0)) : Pt × Pt)) he
    obtain ⟨k, hk', rfl⟩ := mem_getD (d := ((0, true, true) : Int × Bool × Bool)) hs
    rw [edg_at (by omega)]
    exact h' i (by omega) k hk'
end Go.Proofs.Ytopnbammdeimcaa.Pl
