import Derived.Test.YtoccfdohlefifaaP18i
namespace Go.Proofs.Ytoccfdohlefifaa.Pl
set_option maxRecDepth 4000
open G3 (Ok4)
theorem u64_w (n : Int) : IntKind.u64.wrap n = n % 18446744073709551616 := by simp [IntKind.wrap, IntKind.bits, IntKind.signed]
theorem rm_mod (x : Int) (b : Nat) (hb : 0 < b) : ∃ k : Nat, k < b ∧ rmK (IntKind.u64.wrap x) (b : Int) = some (k : Int) := by
  rw [u64_w]
  obtain ⟨y, hy⟩ : ∃ y : Nat, x % 18446744073709551616 = (y : Int) := ⟨(x % 18446744073709551616).toNat, by omega⟩
  refine ⟨y % b, Nat.mod_lt _ hb, ?_⟩
  unfold rmK
  rw [hy, if_neg (by omega)]
  rfl
def hasP (g : Gd) (p : Pt) : Prop := hasM g.2.2.2.1 p = true
def hasE (g : Gd) (e : Pt × Pt) : Prop := hasM g.2.2.2.2 e = true
def At (g : Gd) : Prop := ∀ p, hasP g p → p ∈ g.2.2.1
def LeG (g g' : Gd) : Prop := (∀ p, hasP g p → hasP g' p) ∧ ∀ e, hasE g e → hasE g' e
theorem LeG.refl (g : Gd) : LeG g g := ⟨fun _ h => h, fun _ h => h⟩
theorem LeG.trans {a b c : Gd} (h : LeG a b) (k : LeG b c) : LeG a c := ⟨fun p hp => k.1 p (h.1 p hp), fun e he => k.2 e (h.2 e he)⟩
theorem putP_facts (g : Gd) (p : Pt) (h : At g) : At (putP g p) ∧ LeG g (putP g p) ∧ hasP (putP g p) p := by
  unfold putP
  by_cases hh : hasM g.2.2.2.1 p = true
  · rw [if_pos hh]; exact ⟨h, LeG.refl g, hh⟩
  · rw [if_neg hh]
    refine ⟨fun q hq => ?_, ⟨fun q hq => ?_, fun e he => he⟩, ?_⟩
    · have hq : hasM (upM g.2.2.2.1 p true) q = true := hq
      show q ∈ g.2.2.1 ++ [p]
      rw [hasM_up] at hq
      by_cases e : q = p
      · simp [e]
      · rw [if_neg e] at hq
        exact List.mem_append.2 (.inl (h q hq))
    · show hasM (upM g.2.2.2.1 p true) q = true
      rw [hasM_up]; split
      · rfl
      · exact hq
    · show hasM (upM g.2.2.2.1 p true) p = true
      rw [hasM_up, if_pos rfl]
theorem putE_facts (g : Gd) (q p : Pt) (h : At g) : At (putE g q p) ∧ LeG g (putE g q p) ∧ (q ≠ p → hasE (putE g q p) (btw q p)) := by
  unfold putE
  by_cases hh : q = p
  · rw [if_pos hh]; exact ⟨h, LeG.refl g, fun k => (k hh).elim⟩
  · rw [if_neg hh]
    refine ⟨h, ⟨fun _ h => h, fun e he => ?_⟩, fun _ => ?_⟩
    · show hasM (upM g.2.2.2.2 (btw q p) true) e = true
      rw [hasM_up]; split
      · rfl
      · exact he
    · show hasM (upM g.2.2.2.2 (btw q p) true) (btw q p) = true
      rw [hasM_up, if_pos rfl]
theorem stepK_facts (l : List Pt) (g : Gd) (k : Nat) (h : At g) : At (stepK l g k) ∧ LeG g (stepK l g k) ∧ hasP (stepK l g k) (l.getD k (0, 0)) ∧ (0 < k → l.getD (k - 1) (0, 0) ≠ l.getD k (0, 0) → hasE (stepK l g k) (btw (l.getD (k - 1) (0, 0)) (l.getD k (0, 0)))) := by
  obtain ⟨h1, h2, h3⟩ := putP_facts g (l.getD k (0, 0)) h
  unfold stepK
  by_cases h0 : 0 < k
  · rw [if_pos h0]
    obtain ⟨e1, e2, e3⟩ := putE_facts (putP g (l.getD k (0, 0))) (l.getD (k - 1) (0, 0)) (l.getD k (0, 0)) h1
    exact ⟨e1, h2.trans e2, e2.1 _ h3, fun _ => e3⟩
  · rw [if_neg h0]
    exact ⟨h1, h2, h3, fun k => (h0 k).elim⟩
theorem range_facts (l : List Pt) (g : Gd) (h : At g) : ∀ k : Nat, At ((List.range k).foldl (stepK l) g) ∧ LeG g ((List.range k).foldl (stepK l) g) ∧
    ∀ i, i < k → hasP ((List.range k).foldl (stepK l) g) (l.getD i (0, 0)) ∧ (0 < i → l.getD (i - 1) (0, 0) ≠ l.getD i (0, 0) → hasE ((List.range k).foldl (stepK l) g) (btw (l.getD (i - 1) (0, 0)) (l.getD i (0, 0))))
  | 0 => ⟨h, LeG.refl g, fun i hi => by omega⟩
  | k + 1 => by
    obtain ⟨h1, h2, h3⟩ := range_facts l g h k
    obtain ⟨e1, e2, e3, e4⟩ := stepK_facts l ((List.range k).foldl (stepK l) g) k h1
    rw [List.range_succ, List.foldl_append]
    refine ⟨e1, h2.trans e2, fun i hi => ?_⟩
    by_cases hk : i = k
    · subst hk; exact ⟨e3, e4⟩
    · obtain ⟨a1, a2⟩ := h3 i (by omega)
      exact ⟨e2.1 _ a1, fun q1 q2 => e2.2 _ (a2 q1 q2)⟩
theorem arcs_facts : ∀ (l : List Ar) (g : Gd), At g → At (l.foldl arcG g) ∧ LeG g (l.foldl arcG g) ∧
    ∀ a ∈ l, ∀ i, i < a.1.length → hasP (l.foldl arcG g) (a.1.getD i (0, 0)) ∧ (0 < i → a.1.getD (i - 1) (0, 0) ≠ a.1.getD i (0, 0) → hasE (l.foldl arcG g) (btw (a.1.getD (i - 1) (0, 0)) (a.1.getD i (0, 0))))
  | [], g, h => ⟨h, LeG.refl g, fun a ha => nomatch ha⟩
  | b :: l, g, h => by
    obtain ⟨h1, h2, h3⟩ := range_facts b.1 g h b.1.length
    obtain ⟨e1, e2, e3⟩ := arcs_facts l (arcG g b) h1
    refine ⟨e1, LeG.trans h2 e2, fun a ha i hi => ?_⟩
    rcases List.mem_cons.1 ha with rfl | ha
    · obtain ⟨a1, a2⟩ := h3 i hi
      exact ⟨e2.1 _ a1, fun q1 q2 => e2.2 _ (a2 q1 q2)⟩
    · exact e3 a ha i hi
theorem mem_edgA {l : List Ar} {e : Eg} : e ∈ edgA l ↔ ∃ a ∈ l, ∃ i, i + 1 < a.1.length ∧ e = (a.1.getD i (0, 0), a.1.getD (i + 1) (0, 0)) := by
  unfold edgA edgL
  rw [List.mem_flatMap]
  constructor
  · rintro ⟨a, ha, h⟩
    obtain ⟨i, hi, rfl⟩ := List.mem_map.1 h
    rw [List.mem_range] at hi
    exact ⟨a, ha, i, by omega, rfl⟩
  · rintro ⟨a, ha, i, hi, rfl⟩
    exact ⟨a, ha, List.mem_map.2 ⟨i, List.mem_range.2 (by omega), rfl⟩⟩
theorem newG_facts (L : List Int) (l : List Ar) : At (newG L l) ∧ ∀ e ∈ edgA l, hasP (newG L l) e.1 ∧ hasP (newG L l) e.2 ∧ (e.1 ≠ e.2 → hasE (newG L l) (btw e.1 e.2)) := by
  have h0 : At (([], [], []), L, [], [], []) := fun p h => by cases h
  obtain ⟨h1, _, h3⟩ := arcs_facts l (([], [], []), L, [], [], []) h0
  refine ⟨h1, fun e he => ?_⟩
  obtain ⟨a, ha, i, hi, rfl⟩ := mem_edgA.1 he
  obtain ⟨p1, _⟩ := h3 a ha i (by omega)
  obtain ⟨p2, p3⟩ := h3 a ha (i + 1) hi
  exact ⟨p1, p2, fun hn => p3 (by omega) hn⟩
theorem conv {D α β γ x y z p lo : Int} (h : G3.In3 D α β γ) (hs : α + β + γ = D) (hp : D * p = α * x + β * y + γ * z) (hx : lo ≤ x) (hy : lo ≤ y) (hz : lo ≤ z) : lo ≤ p := by
  have key : ∀ D α β γ : Int, 0 < D → 0 ≤ α → 0 ≤ β → 0 ≤ γ → α + β + γ = D → D * p = α * x + β * y + γ * z → lo ≤ p := by
    intro D α β γ hD ha hb hc hs hp
    have h1 := Int.mul_nonneg ha (show 0 ≤ x - lo by omega)
    have h2 := Int.mul_nonneg hb (show 0 ≤ y - lo by omega)
    have h3 := Int.mul_nonneg hc (show 0 ≤ z - lo by omega)
    have e : D * (p - lo) = α * (x - lo) + β * (y - lo) + γ * (z - lo) := by grind
    rcases Int.lt_or_le p lo with q | q
    · have := Int.mul_neg_of_pos_of_neg hD (show p - lo < 0 by omega); omega
    · exact q
  rcases h with ⟨hD, h1, h2, h3⟩ | ⟨hD, h1, h2, h3⟩
  · exact key D α β γ hD h1 h2 h3 hs hp
  · exact key (-D) (-α) (-β) (-γ) (by omega) (by omega) (by omega) (by omega) (by omega) (by simp only [Int.neg_mul]; omega)
theorem conv2 {D α β γ x y z p hi : Int} (h : G3.In3 D α β γ) (hs : α + β + γ = D) (hp : D * p = α * x + β * y + γ * z) (hx : x ≤ hi) (hy : y ≤ hi) (hz : z ≤ hi) : p ≤ hi := by
  have := conv (x := -x) (y := -y) (z := -z) (p := -p) (lo := -hi) h hs (by simp only [Int.mul_neg]; omega) (by omega) (by omega) (by omega)
  omega
theorem InT_box {a b c p : Pt} (ha : May a) (hb : May b) (hc : May c) (hp : May p) (h : InT a b c p) : Mt (boxP [a, b, c]) (p, p) := by
  have hin : (min a.1 (min b.1 c.1) ≤ p.1 ∧ p.1 ≤ max a.1 (max b.1 c.1)) ∧ min a.2 (min b.2 c.2) ≤ p.2 ∧ p.2 ≤ max a.2 (max b.2 c.2) := by
    unfold InT at h
    by_cases h0 : crossZ a b c = 0
    · rw [if_pos h0] at h
      unfold On at h
      omega
    · rw [if_neg h0] at h
      rcases h with rfl | h
      · omega
      · have s1 := sg_cases (crossZ a b c)
        have s2 := sg_cases (crossZ b c p)
        have s3 := sg_cases (crossZ c a p)
        have s4 := sg_cases (crossZ a b p)
        have h3 : G3.In3 (crossZ a b c) (crossZ b c p) (crossZ c a p) (crossZ a b p) := by unfold G3.In3; omega
        have hs := G3.tri_sum a b c p
        have e1 : crossZ a b c * p.1 = crossZ b c p * a.1 + crossZ c a p * b.1 + crossZ a b p * c.1 := by unfold crossZ; grind
        have e2 : crossZ a b c * p.2 = crossZ b c p * a.2 + crossZ c a p * b.2 + crossZ a b p * c.2 := by unfold crossZ; grind
        exact ⟨⟨conv h3 hs e1 (by omega) (by omega) (by omega), conv2 h3 hs e1 (by omega) (by omega) (by omega)⟩, conv h3 hs e2 (by omega) (by omega) (by omega), conv2 h3 hs e2 (by omega) (by omega) (by omega)⟩
  unfold May at ha hb hc hp
  unfold Mt RB May boxP lowP highP
  simp only [List.foldl_cons, List.foldl_nil, List.getD_cons_zero, mn_eq, mx_eq]
  omega
theorem why0 {g : Gd} {a b c : Pt} (h : whyG g a b c = 0) : ¬ NoEnds g a b c ∧ hasM g.2.2.2.2 (btw a c) ≠ true ∧ ¬ ∃ p ∈ g.2.2.1, Bad g a b c p := by
  unfold whyG at h
  by_cases h1 : NoEnds g a b c
  · rw [if_pos h1] at h; omega
  rw [if_neg h1] at h
  by_cases h2 : ¬ (Cm g.2.1 a.1 c.1 ∧ Cm g.2.1 a.2 c.2)
  · rw [if_pos h2] at h; omega
  rw [if_neg h2] at h
  by_cases h3 : hasM g.2.2.2.2 (btw a c) = true
  · rw [if_pos h3] at h; omega
  rw [if_neg h3] at h
  by_cases h4 : ∃ p ∈ g.2.2.1, Bad g a b c p
  · rw [if_pos h4] at h; omega
  exact ⟨h1, h3, h4⟩
theorem keep18 {L : List Int} {l : List Ar} {a b c : Pt} (hG : Good (edgA l)) (hab : (a, b) ∈ edgA l) (hbc : (b, c) ∈ edgA l) (hw : whyG (newG L l) a b c = 0) {e : Eg} (he : e ∈ edgA l) (h1 : e.1 ≠ b) (h2 : e.2 ≠ b) : CK a c e.1 e.2 := by
  obtain ⟨hA, hE⟩ := newG_facts L l
  obtain ⟨w1, w2, w3⟩ := why0 hw
  unfold NoEnds at w1
  have hac : a ≠ c := fun h => w1 (.inl h)
  have hm : May a ∧ May b ∧ May c := Classical.not_not.1 fun h => w1 (.inr (.inr (.inr (.inl h))))
  have c1 := hG.two hab he (by rintro rfl; exact h2 rfl)
  have c2 := hG.two hbc he (by rintro rfl; exact h1 rfl)
  obtain ⟨p1, p2, p3⟩ := hE e he
  have hns : ¬ ((a = e.1 ∧ c = e.2) ∨ (a = e.2 ∧ c = e.1)) := by
    rintro (⟨rfl, rfl⟩ | ⟨rfl, rfl⟩)
    · exact w2 (p3 c1.cd)
    · rw [btw_sym] at w2; exact w2 (p3 c1.cd)
  have tri : ∀ p, hasP (newG L l) p → p ≠ b → May p → InT a b c p → p = a ∨ p = c := by
    intro p hp hb hmp hI
    refine Classical.byContradiction fun hn => w3 ⟨p, hA p hp, InT_box hm.1 hm.2.1 hm.2.2 hmp hI, fun q => hn (.inl q), hb, fun q => hn (.inr q), hp, hI⟩
  exact ⟨hm.1, hm.2.2, c1.mc, c1.md, hac, c1.cd, G3.keep c1.ab c2.ab hac c1.cd h1 h2 hns (tri _ p1 h1 c1.mc) (tri _ p2 h2 c1.md) c1.ok c2.ok⟩
theorem k18 {E : List Eg} {b : Pt} {e : Eg} {i : Int} (he : ix E i = some e) : (gd (!(decide (e.1 = b))) (ix E i) ((0, 0), (0, 0))).bind (fun x => (some ((decide (e.1 = b)) || (decide (x.2 = b))))) = some (decide (e.1 = b ∨ e.2 = b)) := by
  by_cases h : e.1 = b
  · simp [h]
  · simp [h, he]
theorem law18_GuardKeeps_true (x0 : List (List (Int × Int) × Int × Int)) (x1 : Int) (x2 : Int) (k0 : ∀ y2 ∈ x0, (∀ y4 ∈ y2.1, I64 y4.1 ∧ I64 y4.2) ∧ (I64 y2.2.1 ∧ I64 y2.2.2)) (k1 : I64 x1) (k2 : I64 x2) : law18_GuardKeeps x0 x1 x2 = some true := by
  obtain ⟨c1, c2⟩ := cutA_total x0
  unfold law18_GuardKeeps
  rw [Cut14_eq, bind_some']
  generalize cutA x0 = l at c1 c2 ⊢
  obtain ⟨r, hr, hc⟩ := plain_eq l c1 c2
  rw [hr, bind_some', bind_some', known18]
  rcases hc with rfl | ⟨rfl, hG⟩
  · rfl
  by_cases h0 : l.length = 0
  · rw [decide_eq_true (show (l.length : Int) = 0 by omega)]; rfl
  rw [decide_eq_false (show ¬ (l.length : Int) = 0 by omega)]
  simp only [Bool.not_true, Bool.or_self, Bool.false_eq_true, if_false, bind_some']
  obtain ⟨k, hk, hkr⟩ := rm_mod x1 l.length (by omega)
  rw [IntWalk.u64_in (l.length : Int) (by omega), hkr, bind_some', IntWalk.i64_in (k : Int) (by omega), ix_getD ([], 0, 0) hk, bind_some']
  have hmem : l.getD k ([], 0, 0) ∈ l := getD_mem hk
  have htot : (l.getD k ([], 0, 0)).1.length ≤ 200 := by have := total_snoc l hk; omega
  generalize l.getD k ([], 0, 0) = A at hmem htot ⊢
  by_cases h3 : A.1.length < 3
  · rw [decide_eq_true (show (A.1.length : Int) < 3 by omega)]; rfl
  rw [decide_eq_false (show ¬ (A.1.length : Int) < 3 by omega)]
  simp only [Bool.false_eq_true, if_false]
  obtain ⟨j, hj, hjr⟩ := rm_mod x2 (A.1.length - 2) (by omega)
  have e2 : sb (A.1.length : Int) 2 = ((A.1.length - 2 : Nat) : Int) := by rw [sb_in (by omega)]; omega
  have e3 : ad 1 (j : Int) = ((j + 1 : Nat) : Int) := by rw [ad_in (by omega)]; omega
  rw [e2, IntWalk.u64_in ((A.1.length - 2 : Nat) : Int) (by omega), hjr, bind_some', IntWalk.i64_in (j : Int) (by omega), e3, sb_one (by omega) (by omega), ad_one (by omega), ix_getD (0, 0) (show j + 1 - 1 < A.1.length by omega), bind_some', ix_getD (0, 0) (show j + 1 < A.1.length by omega), bind_some', ix_getD (0, 0) (show j + 1 + 1 < A.1.length by omega), bind_some']
  have m1 : (A.1.getD (j + 1 - 1) (0, 0), A.1.getD (j + 1) (0, 0)) ∈ edgA l := mem_edgA.2 ⟨A, hmem, j, by omega, rfl⟩
  have m2 : (A.1.getD (j + 1) (0, 0), A.1.getD (j + 1 + 1) (0, 0)) ∈ edgA l := mem_edgA.2 ⟨A, hmem, j + 1, by omega, rfl⟩
  generalize A.1.getD (j + 1 - 1) (0, 0) = a at m1 ⊢
  generalize A.1.getD (j + 1) (0, 0) = b at m1 m2 ⊢
  generalize A.1.getD (j + 1 + 1) (0, 0) = c at m2 ⊢
  have hlen := edgA_len l
  have hGI : GI (newG [] l) [] 200 := (GI.arcs l (GI.nil [])).more (by omega)
  have := loopO_rule (body := fun s => law18_GuardKeeps_b1 l (edgA l, true) a b c s.1 s.2) (fun s => ∃ i n : Nat, i ≤ (edgA l).length ∧ n ≤ i ∧ s = ((n : Int), (i : Int))) (fun s => (1000 - s.2).toNat) (fun r => r = true) ?_ (s := (0, 0)) ⟨0, 0, by omega, by omega, rfl⟩
  · obtain ⟨r, hr, rfl⟩ := this; exact hr
  rintro s ⟨i, n, hi, hn, rfl⟩
  show (∃ s', law18_GuardKeeps_b1 _ _ _ _ _ _ _ = _ ∧ _) ∨ ∃ r, law18_GuardKeeps_b1 _ _ _ _ _ _ _ = _ ∧ _
  unfold law18_GuardKeeps_b1
  by_cases hie : i < (edgA l).length
  · left
    rw [dlt hie, if_pos rfl, ix_getD ((0, 0), (0, 0)) hie, bind_some']
    have hk := k18 (b := b) (ix_getD ((0, 0), (0, 0)) hie)
    rw [ix_getD ((0, 0), (0, 0)) hie] at hk
    rw [← Option.bind_assoc, hk, bind_some']
    unfold law18_GuardKeeps_k2
    by_cases hb : ((edgA l).getD i ((0, 0), (0, 0))).1 = b ∨ ((edgA l).getD i ((0, 0), (0, 0))).2 = b
    · rw [decide_eq_true hb, if_pos rfl, ad_one (by omega), ad_one (by omega)]
      exact ⟨_, rfl, ⟨i + 1, n + 1, by omega, by omega, rfl⟩, by show (1000 - ((i + 1 : Nat) : Int)).toNat < (1000 - (i : Int)).toNat; omega⟩
    · rw [decide_eq_false hb, if_neg (by decide), ad_one (by omega)]
      exact ⟨_, rfl, ⟨i + 1, n, by omega, by omega, rfl⟩, by show (1000 - ((i + 1 : Nat) : Int)).toNat < (1000 - (i : Int)).toNat; omega⟩
  · right
    refine ⟨true, ?_, rfl⟩
    rw [dnlt hie, if_neg (by decide), New18_eq [] l (by simp) (by omega) (by omega), bind_some']
    by_cases hn2 : (n : Int) = 2
    · rw [decide_eq_true hn2]
      simp only [Bool.not_true, Bool.or_self, Bool.not_false, gd_true]
      rw [Drop_eq hGI (by omega) ris_nil (by simp)]
      by_cases hw : whyG (newG [] l) a b c = 0
      · rw [if_pos hw, bind_some', bind_some']
        simp only [Bool.not_true, Bool.or_self, Bool.false_eq_true, if_false]
        have hl3 := loopO_nat (body := fun s => law18_GuardKeeps_b3 (edgA l, true) a b c (true, dropG (newG [] l) a b c) s) (fun k => (k : Int)) (edgA l).length true (fun k hk => by
          show law18_GuardKeeps_b3 _ _ _ _ _ _ = _
          unfold law18_GuardKeeps_b3
          rw [dlt hk, if_pos rfl, ix_getD ((0, 0), (0, 0)) hk, bind_some']
          have hkk := k18 (b := b) (ix_getD ((0, 0), (0, 0)) hk)
          rw [ix_getD ((0, 0), (0, 0)) hk] at hkk
          rw [← Option.bind_assoc, hkk, bind_some']
          unfold law18_GuardKeeps_k4
          by_cases hb : ((edgA l).getD k ((0, 0), (0, 0))).1 = b ∨ ((edgA l).getD k ((0, 0), (0, 0))).2 = b
          · rw [decide_eq_true hb, if_pos rfl, ad_one (by omega)]
          · rw [decide_eq_false hb, if_neg (by decide), bind_some', bind_some']
            have hck := keep18 hG m1 m2 hw (getD_mem (d := ((0, 0), (0, 0))) hk) (fun h => hb (.inl h)) (fun h => hb (.inr h))
            obtain ⟨r, hr, hc⟩ := class_ck a c ((edgA l).getD k ((0, 0), (0, 0))).1 ((edgA l).getD k ((0, 0), (0, 0))).2
            have hc' := hc.2 hck
            rw [hr, bind_some', bind_some']
            have : (!decide (r.2 = 0) || (!decide (r.1 = 0) && !decide (r.1 = 1))) = false := by
              rw [decide_eq_true hc'.1]
              rcases hc'.2 with h | h <;> rw [h] <;> rfl
            rw [this, if_neg (by decide), ad_one (by omega)]) (by
          show law18_GuardKeeps_b3 _ _ _ _ _ _ = _
          unfold law18_GuardKeeps_b3
          rw [dnlt (Nat.lt_irrefl _), if_neg (by decide), known18, bind_some', gd_true]
          obtain ⟨w1, w2, w3⟩ := why0 hw
          have hbc : b ≠ c := (hG.1 _ m2)
          have hab : a ≠ b := (hG.1 _ m1)
          have hac : a ≠ c := fun h => w1 (.inl h)
          have j1 : guard_Guard_Joined (dropG (newG [] l) a b c) a c = some true := by
            unfold guard_Guard_Joined
            rw [gd_true, between_eq, bind_some']
            have : (lkM (dropG (newG [] l) a b c).2.2.2.2 (btw a c)).getD false = true := by
              show hasM (upM _ (btw a c) true) (btw a c) = true
              rw [hasM_up, if_pos rfl]
            rw [this]; rfl
          have j2 : guard_Guard_Has (dropG (newG [] l) a b c) b = some false := by
            unfold guard_Guard_Has
            have : (lkM (dropG (newG [] l) a b c).2.2.2.1 b).getD false = false := by
              show (lkM (deM (newG [] l).2.2.2.1 b) b).getD false = false
              rw [de_lk _ _ hGI.tnd, if_pos rfl]; rfl
            rw [this]; rfl
          have hbt : btw a b ≠ btw a c := by
            intro h
            unfold btw at h
            split at h <;> split at h <;> simp only [Prod.mk.injEq] at h <;> grind
          have j3 : guard_Guard_Joined (dropG (newG [] l) a b c) a b = some false := by
            unfold guard_Guard_Joined
            rw [gd_true, between_eq, bind_some']
            have : (lkM (dropG (newG [] l) a b c).2.2.2.2 (btw a b)).getD false = false := by
              show hasM (upM (deM (deM (newG [] l).2.2.2.2 (btw a b)) (btw b c)) (btw a c) true) (btw a b) = false
              rw [hasM_up, if_neg hbt]
              unfold hasM
              rw [de_lk _ _ (de_nodup hGI.ende)]
              split
              · rfl
              · rw [de_lk _ _ hGI.ende, if_pos rfl]; rfl
            rw [this]; rfl
          rw [j1, bind_some']
          simp only [Bool.and_self, gd_true]
          rw [j2, bind_some']
          simp only [Bool.not_false, Bool.and_self, gd_true]
          rw [j3]; rfl)
        exact congrArg (Option.map Sum.inr) hl3
      · rw [if_neg hw, bind_some', bind_some', known18]; rfl
    · rw [decide_eq_false hn2, known18]; rfl
end Go.Proofs.Ytoccfdohlefifaa.Pl
