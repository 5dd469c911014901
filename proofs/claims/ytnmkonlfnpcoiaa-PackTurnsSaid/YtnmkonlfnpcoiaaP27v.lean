import Derived.Test.YtnmkonlfnpcoiaaP27u
namespace Go.Proofs.Ytnmkonlfnpcoiaa.Pl
open Go.Proofs.Ytnmkonlfnpcoiaa Go.Sort
set_option linter.unusedVariables false
theorem quK_k (n k : Nat) (hk : 0 < k) (h : n < 9223372036854775807) : quK .i64 (n : Int) (k : Int) = some ((n / k : Nat) : Int) := by
  unfold quK
  rw [if_neg (by omega)]
  congr 1
  have e : Int.tdiv (n : Int) (k : Int) = ((n / k : Nat) : Int) := by
    rw [Int.tdiv_eq_ediv_of_nonneg (by omega)]; simp
  rw [e]
  have := Nat.div_le_self n k
  generalize n / k = q at this
  exact IntWalk.i64_in _ (by omega)
theorem npt_all : ((List.range 128).all fun n => Nat.blt n 8 || (match sort_nextPowerOfTwo (n : Int) with | some M => decide (1 ≤ M) && decide (M ≤ 2 * n) | none => false)) = true := by kernel_rfl
theorem npt {n : Nat} (h8 : 8 ≤ n) (h : n < 128) : ∃ M : Nat, sort_nextPowerOfTwo (n : Int) = some (M : Int) ∧ 1 ≤ M ∧ M ≤ 2 * n := by
  have := List.all_eq_true.1 npt_all n (by simpa using h)
  have hb : Nat.blt n 8 = false := by
    cases hc : Nat.blt n 8 with
    | false => rfl
    | true => have := Nat.le_of_ble_eq_true hc; omega
  rw [hb, Bool.false_or] at this
  cases hM : sort_nextPowerOfTwo (n : Int) with
  | none => rw [hM] at this; cases this
  | some M =>
    rw [hM] at this
    simp only [Bool.and_eq_true, decide_eq_true_eq] at this
    exact ⟨M.toNat, by congr 1; omega, by omega, by omega⟩
theorem xsh (r : Int) : ∃ x : Int, sort_xorshift_Next r = some (x, x) := by
  unfold sort_xorshift_Next
  have e1 : ∀ x : Int, slK .u64 x 13 = some (IntKind.u64.wrap (x * 2 ^ (13 : Int).toNat)) := fun x => if_pos (by decide)
  have e2 : ∀ x : Int, srK .u64 x 7 = some (x / 2 ^ (7 : Int).toNat) := fun x => if_pos (by decide)
  have e3 : ∀ x : Int, slK .u64 x 17 = some (IntKind.u64.wrap (x * 2 ^ (17 : Int).toNat)) := fun x => if_pos (by decide)
  rw [e1, bind_some', e2, bind_some', e3, bind_some', bind_some']
  exact ⟨_, rfl⟩
theorem anU (x : Int) {m : Nat} (hm : m < 1000) : ∃ k : Nat, k ≤ m ∧ anK .u64 x (m : Int) = (k : Int) := by
  refine ⟨(BitVec.ofInt 64 x &&& BitVec.ofInt 64 (m : Int)).toNat, ?_, ?_⟩
  · rw [BitVec.toNat_and]
    refine Nat.le_trans Nat.and_le_right ?_
    rw [BitVec.toNat_ofInt]
    omega
  · have hl : (BitVec.ofInt 64 x &&& BitVec.ofInt 64 (m : Int)).toNat < 2 ^ 64 := (BitVec.ofInt 64 x &&& BitVec.ofInt 64 (m : Int)).isLt
    show IntKind.u64.wrap ((BitVec.ofInt 64 x &&& BitVec.ofInt 64 (m : Int)).toNat : Int) = _
    generalize (BitVec.ofInt 64 x &&& BitVec.ofInt 64 (m : Int)).toNat = q at hl
    exact IntWalk.u64_in _ (by omega)
section
variable {α : Type} [Inhabited α] {lt : α → α → Bool} {lf : List α → Int → Int → Option Bool}
theorem ord2 (hL : LfA lt lf) {d : Array α} {a b s : Nat} (ha : a < d.size) (hb : b < d.size) (hs : s ≤ 100) :
    ∃ x y s' : Nat, sort_order2_func α lf d.toList a b s = some ((x : Int), (y : Int), (s' : Int), d.toList) ∧ (x = a ∧ y = b ∨ x = b ∧ y = a) ∧ s' ≤ s + 1 := by
  unfold sort_order2_func
  rw [hL.at b a rfl rfl hb ha, bind_some']
  cases lt d[b]! d[a]! with
  | true =>
    refine ⟨b, a, s + 1, ?_, .inr ⟨rfl, rfl⟩, Nat.le_refl _⟩
    rw [if_pos rfl, adn (by omega) (by omega) (by omega) (by omega)]; rfl
  | false => exact ⟨a, b, s, rfl, .inl ⟨rfl, rfl⟩, Nat.le_succ _⟩
theorem med (hL : LfA lt lf) {d : Array α} {a b c s : Nat} (ha : a < d.size) (hb : b < d.size) (hc : c < d.size) (hs : s ≤ 90) :
    ∃ m s' : Nat, sort_median_func α lf d.toList a b c s = some ((m : Int), (s' : Int), d.toList) ∧ (m = a ∨ m = b ∨ m = c) ∧ s' ≤ s + 3 := by
  unfold sort_median_func
  obtain ⟨x1, y1, s1, e1, h1, k1⟩ := ord2 (lt := lt) hL (s := s) ha hb (by omega)
  rw [e1, bind_some']
  obtain ⟨x2, y2, s2, e2, h2, k2⟩ := ord2 (lt := lt) hL (d := d) (a := y1) (b := c) (s := s1) (by omega) hc (by omega)
  simp only []
  rw [e2, bind_some']
  obtain ⟨x3, y3, s3, e3, h3, k3⟩ := ord2 (lt := lt) hL (d := d) (a := x1) (b := x2) (s := s2) (by omega) (by omega) (by omega)
  simp only []
  rw [e3, bind_some']
  exact ⟨y3, s3, rfl, by omega, by omega⟩
theorem medA (hL : LfA lt lf) {d : Array α} {a s : Nat} (h1 : 1 ≤ a) (ha : a + 1 < d.size) (hd : d.size < 1000000000) (hs : s ≤ 80) :
    ∃ m s' : Nat, sort_medianAdjacent_func α lf d.toList a s = some ((m : Int), (s' : Int), d.toList) ∧ (m = a - 1 ∨ m = a ∨ m = a + 1) ∧ s' ≤ s + 3 := by
  unfold sort_medianAdjacent_func
  rw [sbn (by omega) (by omega) (by omega) (by omega), adn (by omega) (by omega) (by omega) (by omega)]
  obtain ⟨m, s', e, h, k⟩ := med (lt := lt) hL (d := d) (a := a - 1) (b := a) (c := a + 1) (s := s) (by omega) (by omega) (by omega) (by omega)
  rw [show (a : Int) - 1 = ((a - 1 : Nat) : Int) from by omega, show (a : Int) + 1 = ((a + 1 : Nat) : Int) from by omega, e, bind_some']
  exact ⟨m, s', rfl, h, k⟩
omit [Inhabited α] in
theorem piv_k1 {d : Array α} {s p : Nat} : ∃ h : Int, sort_choosePivot_func_k1 α (s : Int) (p : Int) d.toList = some ((p : Int), h, d.toList) := by
  unfold sort_choosePivot_func_k1
  split
  · exact ⟨_, rfl⟩
  · split
    · exact ⟨_, rfl⟩
    · exact ⟨_, rfl⟩
theorem piv (hL : LfA lt lf) {d : Array α} {a b : Nat} (hab : a + 12 < b) (hb : b ≤ d.size) (hd : d.size < 1000000000) :
    ∃ (p : Nat) (h : Int), sort_choosePivot_func α lf d.toList a b = some ((p : Int), h, d.toList) ∧ a ≤ p ∧ p < b := by
  unfold sort_choosePivot_func
  have e0 : sb (b : Int) (a : Int) = ((b - a : Nat) : Int) := by rw [sbn (by omega) (by omega) (by omega) (by omega)]; omega
  have q := quK_k (b - a) 4 (by omega) (by omega)
  rw [show ((4 : Nat) : Int) = 4 from rfl] at q
  rw [e0, q, bind_some', bind_some', bind_some']
  have m1 : ad (a : Int) (ml (((b - a) / 4 : Nat) : Int) 1) = ((a + (b - a) / 4 * 1 : Nat) : Int) := by rw [ml_in (by omega), adn (by omega) (by omega) (by omega) (by omega)]; omega
  have m2 : ad (a : Int) (ml (((b - a) / 4 : Nat) : Int) 2) = ((a + (b - a) / 4 * 2 : Nat) : Int) := by rw [ml_in (by omega), adn (by omega) (by omega) (by omega) (by omega)]; omega
  have m3 : ad (a : Int) (ml (((b - a) / 4 : Nat) : Int) 3) = ((a + (b - a) / 4 * 3 : Nat) : Int) := by rw [ml_in (by omega), adn (by omega) (by omega) (by omega) (by omega)]; omega
  rw [m1, m2, m3, show decide (8 ≤ ((b - a : Nat) : Int)) = true from by simp only [decide_eq_true_eq]; omega, if_pos rfl]
  have fin : ∀ (s i j k : Nat), s ≤ 20 → a ≤ i → i < b → a ≤ j → j < b → a ≤ k → k < b → ∃ (p : Nat) (h : Int), sort_choosePivot_func_k2 α lf (s : Int) (i : Int) (j : Int) (k : Int) d.toList = some ((p : Int), h, d.toList) ∧ a ≤ p ∧ p < b := by
    intro s i j k hs h1 h2 h3 h4 h5 h6
    unfold sort_choosePivot_func_k2
    obtain ⟨m, s', e, h, _⟩ := med (lt := lt) hL (d := d) (a := i) (b := j) (c := k) (s := s) (by omega) (by omega) (by omega) (by omega)
    rw [e, bind_some']
    obtain ⟨h', eh⟩ := piv_k1 (d := d) (s := s') (p := m)
    exact ⟨m, h', eh, by omega, by omega⟩
  by_cases h5 : 50 ≤ b - a
  · rw [show decide (50 ≤ ((b - a : Nat) : Int)) = true from by simp only [decide_eq_true_eq]; omega, if_pos rfl]
    obtain ⟨x1, s1, e1, h1, k1⟩ := medA (lt := lt) hL (d := d) (a := a + (b - a) / 4 * 1) (s := 0) (by omega) (by omega) hd (by omega)
    rw [show ((0 : Nat) : Int) = 0 from rfl] at e1
    rw [e1, bind_some']
    have b1 : a ≤ x1 ∧ x1 < b := by omega
    clear h1
    obtain ⟨x2, s2, e2, h2, k2⟩ := medA (lt := lt) hL (d := d) (a := a + (b - a) / 4 * 2) (s := s1) (by omega) (by omega) hd (by omega)
    simp only []
    rw [e2, bind_some']
    have b2 : a ≤ x2 ∧ x2 < b := by omega
    clear h2
    obtain ⟨x3, s3, e3, h3, k3⟩ := medA (lt := lt) hL (d := d) (a := a + (b - a) / 4 * 3) (s := s2) (by omega) (by omega) hd (by omega)
    simp only []
    rw [e3, bind_some']
    have b3 : a ≤ x3 ∧ x3 < b := by omega
    exact fin s3 x1 x2 x3 (by omega) b1.1 b1.2 b2.1 b2.2 b3.1 b3.2
  · rw [show decide (50 ≤ ((b - a : Nat) : Int)) = false from by simp only [decide_eq_false_iff_not]; omega]
    have f0 := fin 0 (a + (b - a) / 4 * 1) (a + (b - a) / 4 * 2) (a + (b - a) / 4 * 3) (by omega) (by omega) (by omega) (by omega) (by omega) (by omega) (by omega)
    rw [show ((0 : Nat) : Int) = 0 from rfl] at f0
    simp only [Bool.false_eq_true, if_false]
    exact f0
theorem brk {d : Array α} {a b : Nat} (hab : a + 12 < b) (hb : b ≤ d.size) (hd : d.size < 128) : ∃ d' : Array α, sort_breakPatterns_func α lf d.toList a b = some d'.toList ∧ PermIn a b d d' := by
  unfold sort_breakPatterns_func
  have e0 : sb (b : Int) (a : Int) = ((b - a : Nat) : Int) := by rw [sbn (by omega) (by omega) (by omega) (by omega)]; omega
  have q := quK_k (b - a) 4 (by omega) (by omega)
  rw [show ((4 : Nat) : Int) = 4 from rfl] at q
  obtain ⟨M, hM, hM1, hM2⟩ := npt (n := b - a) (by omega) (by omega)
  rw [e0, show decide (8 ≤ ((b - a : Nat) : Int)) = true from by simp only [decide_eq_true_eq]; omega, if_pos rfl, hM, bind_some', q, bind_some']
  have m1 : ad (a : Int) (ml (((b - a) / 4 : Nat) : Int) 2) = ((a + (b - a) / 4 * 2 : Nat) : Int) := by rw [ml_in (by omega), adn (by omega) (by omega) (by omega) (by omega)]; omega
  have m2 : sb (ad (a : Int) (ml (((b - a) / 4 : Nat) : Int) 2)) 1 = ((a + (b - a) / 4 * 2 - 1 : Nat) : Int) := by rw [m1, sbn (by omega) (by omega) (by omega) (by omega)]; omega
  have m3 : ad (ad (a : Int) (ml (((b - a) / 4 : Nat) : Int) 2)) 1 = ((a + (b - a) / 4 * 2 + 1 : Nat) : Int) := by rw [m1, adn (by omega) (by omega) (by omega) (by omega)]; omega
  have hM3 : sbK .u64 (M : Int) 1 = ((M - 1 : Nat) : Int) := (IntWalk.u64_in _ (by omega)).trans (by omega)
  rw [m2]
  let I : Int × Int × List α → Prop := fun s => ∃ (i : Nat) (d' : Array α), s.2.1 = (i : Int) ∧ a + (b - a) / 4 * 2 - 1 ≤ i ∧ i ≤ a + (b - a) / 4 * 2 + 2 ∧ s.2.2 = d'.toList ∧ PermIn a b d d'
  let μ : Int × Int × List α → Nat := fun s => (((a + (b - a) / 4 * 2 + 2 : Nat) : Int) - s.2.1).toNat
  have step : ∀ s, I s → (∃ s', (fun (s : Int × Int × List α) => sort_breakPatterns_func_b1 α a b (M : Int) s.1 s.2.1 s.2.2) s = some (.inl s') ∧ I s' ∧ μ s' < μ s) ∨ ∃ r, (fun (s : Int × Int × List α) => sort_breakPatterns_func_b1 α a b (M : Int) s.1 s.2.1 s.2.2) s = some (.inr r) ∧ ∃ d' : Array α, r = d'.toList ∧ PermIn a b d d' := by
    rintro ⟨r, _, _⟩ ⟨i, d', rfl, h1, h2, rfl, hp⟩
    show (∃ s', sort_breakPatterns_func_b1 α a b (M : Int) r (i : Int) d'.toList = some (.inl s') ∧ _ ∧ _) ∨ ∃ x, sort_breakPatterns_func_b1 α a b (M : Int) r (i : Int) d'.toList = some (.inr x) ∧ _
    unfold sort_breakPatterns_func_b1
    rw [e0, q, bind_some', m3]
    by_cases hc : i ≤ a + (b - a) / 4 * 2 + 1
    · left
      obtain ⟨x, hx⟩ := xsh r
      obtain ⟨k, hk, hk2⟩ := anU x (m := M - 1) (by omega)
      rw [show decide ((i : Int) ≤ ((a + (b - a) / 4 * 2 + 1 : Nat) : Int)) = true from by simp only [decide_eq_true_eq]; omega, if_pos rfl, hx, bind_some', bind_some', hM3, hk2, IntWalk.i64_in _ (by omega)]
      have fin : ∀ o : Nat, o < b - a → ∃ s', sort_breakPatterns_func_k2 α a (i : Int) d'.toList (x, x) (o : Int) = some (.inl s') ∧ (∃ (i2 : Nat) (d2 : Array α), s'.2.1 = (i2 : Int) ∧ a + (b - a) / 4 * 2 - 1 ≤ i2 ∧ i2 ≤ a + (b - a) / 4 * 2 + 2 ∧ s'.2.2 = d2.toList ∧ PermIn a b d d2) ∧ (((a + (b - a) / 4 * 2 + 2 : Nat) : Int) - s'.2.1).toNat < (((a + (b - a) / 4 * 2 + 2 : Nat) : Int) - (i : Int)).toNat := by
        intro o ho
        have hs : d'.size = d.size := hp.1
        unfold sort_breakPatterns_func_k2
        rw [adn (by omega) (by omega) (by omega) (by omega), show (a : Int) + (o : Int) = ((a + o : Nat) : Int) from by omega, swO_at i (a + o) rfl rfl (by omega) (by omega), bind_some', adn (by omega) (by omega) (by omega) (by omega)]
        refine ⟨_, rfl, ⟨i + 1, _, by simp, by omega, by omega, rfl, permIn_trans _ _ _ a b hp (swp_permIn d' a b i (a + o) (by omega) (by omega) (by omega) (by omega) (by omega))⟩, ?_⟩
        simp only []
        omega
      by_cases ho : b - a ≤ k
      · rw [show decide (((b - a : Nat) : Int) ≤ (k : Int)) = true from by simp only [decide_eq_true_eq]; omega, if_pos rfl, sbn (by omega) (by omega) (by omega) (by omega), show (k : Int) - ((b - a : Nat) : Int) = ((k - (b - a) : Nat) : Int) from by omega]
        exact fin _ (by omega)
      · rw [show decide (((b - a : Nat) : Int) ≤ (k : Int)) = false from by simp only [decide_eq_false_iff_not]; omega]
        exact fin _ (by omega)
    · right
      rw [show decide ((i : Int) ≤ ((a + (b - a) / 4 * 2 + 1 : Nat) : Int)) = false from by simp only [decide_eq_false_iff_not]; omega]
      exact ⟨_, rfl, d', rfl, hp⟩
  obtain ⟨r, hr, d', hd', hp⟩ := loopO_rule I μ (fun l => ∃ d' : Array α, l = d'.toList ∧ PermIn a b d d') step (s := (IntKind.u64.wrap ((b - a : Nat) : Int), ((a + (b - a) / 4 * 2 - 1 : Nat) : Int), d.toList)) ⟨_, d, rfl, Nat.le_refl _, by omega, rfl, permIn_refl d a b⟩
  exact ⟨d', by rw [← hd']; exact hr, hp⟩
theorem pdq_k5 (hS : SWO lt) (hL : LfA lt lf) {rf : List α → Int → Int → Int → Option (List α)} {m : Nat}
    (hrf : ∀ (d : Array α) (x y : Nat) (lim : Int), x ≤ y → y ≤ d.size → d.size < 128 → y - x < m → Below lt x y d → ∃ d' : Array α, rf d.toList x y lim = some d'.toList ∧ PermIn x y d d' ∧ SortedIn lt x y d')
    {a b p : Nat} {d : Array α} {lim : Int} {wb wp : Bool} (hab : a + 12 < b) (hb : b ≤ d.size) (hd : d.size < 128) (hm : b - a < 2 * m) (hB : Below lt a b d) (hp1 : a ≤ p) (hp2 : p < b) :
    ∃ (x y : Nat) (wb' wp' : Bool) (D : Array α), sort_pdqsort_func_k5 α lf rf a b wb wp lim p d.toList = some (.inl ((x : Int), (y : Int), lim, wb', wp', D.toList)) ∧ x ≤ y ∧ y ≤ b ∧ y - x < b - a ∧ D.size = d.size ∧ Below lt x y D ∧
      ∀ R, PermIn x y D R → SortedIn lt x y R → PermIn a b d R ∧ SortedIn lt a b R := by
  unfold sort_pdqsort_func_k5
  have part : ∃ (x y : Nat) (wb' wp' : Bool) (D : Array α), ((sort_partition_func α lf d.toList a b p).bind fun r2139 => (quK .i64 (sb b a) 8).bind fun x2144 => if (decide ((sb r2139.1 a) < (sb b r2139.1))) then ((rf r2139.2.2 a r2139.1 lim).bind fun r2149 => sort_pdqsort_func_k2 α (ad r2139.1 1) b lim (decide (x2144 ≤ (sb r2139.1 a))) r2139.2.1 r2149) else ((rf r2139.2.2 (ad r2139.1 1) b lim).bind fun r2154 => sort_pdqsort_func_k2 α a r2139.1 lim (decide (x2144 ≤ (sb b r2139.1))) r2139.2.1 r2154)) = some (.inl ((x : Int), (y : Int), lim, wb', wp', D.toList)) ∧ x ≤ y ∧ y ≤ b ∧ y - x < b - a ∧ D.size = d.size ∧ Below lt x y D ∧
      ∀ R, PermIn x y D R → SortedIn lt x y R → PermIn a b d R ∧ SortedIn lt a b R := by
    rw [part_eq hL (by omega) hp2 hb (by omega), bind_some']
    obtain ⟨mid, ap, d4, hx⟩ : ∃ mid ap d4, Sort.partition lt d a b p = (mid, ap, d4) := ⟨_, _, _, rfl⟩
    obtain ⟨h1, h2, h3, hB1, hB2, f1, f2⟩ := round_part hS (partition_holds lt) hp1 hp2 hb hB hx
    rw [hx]
    simp only []
    have q := quK_k (b - a) 8 (by omega) (by omega)
    rw [show ((8 : Nat) : Int) = 8 from rfl] at q
    rw [show sb (b : Int) (a : Int) = ((b - a : Nat) : Int) from by rw [sbn (by omega) (by omega) (by omega) (by omega)]; omega, q, bind_some', show sb (mid : Int) (a : Int) = ((mid - a : Nat) : Int) from by rw [sbn (by omega) (by omega) (by omega) (by omega)]; omega,
      show sb (b : Int) (mid : Int) = ((b - mid : Nat) : Int) from by rw [sbn (by omega) (by omega) (by omega) (by omega)]; omega, show ad (mid : Int) 1 = ((mid + 1 : Nat) : Int) from by rw [adn (by omega) (by omega) (by omega) (by omega)]; omega]
    by_cases hc : mid - a < b - mid
    · rw [show decide (((mid - a : Nat) : Int) < ((b - mid : Nat) : Int)) = true from by simp only [decide_eq_true_eq]; omega, if_pos rfl]
      obtain ⟨L, e, k1, k2⟩ := hrf d4 a mid lim h1 (by omega) (by omega) (by omega) hB1
      obtain ⟨g1, g2⟩ := f1 L k1 k2
      rw [e, bind_some']
      exact ⟨mid + 1, b, _, _, L, rfl, by omega, Nat.le_refl _, by omega, by rw [k1.1, h3], g1, g2⟩
    · rw [show decide (((mid - a : Nat) : Int) < ((b - mid : Nat) : Int)) = false from by simp only [decide_eq_false_iff_not]; omega]
      obtain ⟨L, e, k1, k2⟩ := hrf d4 (mid + 1) b lim (by omega) (by omega) (by omega) (by omega) hB2
      obtain ⟨g1, g2⟩ := f2 L k1 k2
      simp only [Bool.false_eq_true, if_false]
      rw [e, bind_some']
      exact ⟨a, mid, _, _, L, rfl, h1, by omega, by omega, by rw [k1.1, h3], g1, g2⟩
  by_cases ha : 0 < a
  · have ht : decide (0 < (a : Int)) = true := by simp only [decide_eq_true_eq]; omega
    have e1 : sb (a : Int) 1 = ((a - 1 : Nat) : Int) := by rw [sbn (by omega) (by omega) (by omega) (by omega)]; omega
    rw [gdt ht, e1, hL.at (a - 1) p rfl rfl (by omega) (by omega), bind_some', ht]
    cases hl : lt d[a - 1]! d[p]! with
    | true => simpa using part
    | false =>
      rw [partEq_eq hL (by omega) hp2 hb (by omega)]
      obtain ⟨mid, d4, hx⟩ : ∃ mid d4, Sort.partitionEqual lt d a b p = (mid, d4) := ⟨_, _, rfl⟩
      obtain ⟨h1, h2, h3, hB1, f⟩ := round_eq hS (partitionEqual_holds lt) ha hp1 hp2 hb hB hl hx
      rw [hx]
      exact ⟨mid, b, wb, wp, d4, rfl, h2, Nat.le_refl _, by omega, h3, hB1, f⟩
  · have ht : decide (0 < (a : Int)) = false := by simp only [decide_eq_false_iff_not]; omega
    rw [gdf ht, bind_some', ht]
    simpa using part
theorem pdq_loop (hS : SWO lt) (hL : LfA lt lf) {rf : List α → Int → Int → Int → Option (List α)} {m : Nat}
    (hrf : ∀ (d : Array α) (x y : Nat) (lim : Int), x ≤ y → y ≤ d.size → d.size < 128 → y - x < m → Below lt x y d → ∃ d' : Array α, rf d.toList x y lim = some d'.toList ∧ PermIn x y d d' ∧ SortedIn lt x y d') :
    ∀ (n a b : Nat) (d : Array α) (lim : Int) (wb wp : Bool), b - a ≤ n → a ≤ b → b ≤ d.size → d.size < 128 → (b - a ≤ 12 ∨ b - a < 2 * m) → Below lt a b d →
      ∃ d' : Array α, sort_pdqsort_func_l1 α lf rf ((a : Int), (b : Int), lim, wb, wp, d.toList) = some d'.toList ∧ PermIn a b d d' ∧ SortedIn lt a b d' := by
  intro n
  induction n using Nat.strongRecOn with
  | _ n ih =>
    intro a b d lim wb wp hn hab hb hd hm hB
    have e0 : sb (b : Int) (a : Int) = ((b - a : Nat) : Int) := by rw [sbn (by omega) (by omega) (by omega) (by omega)]; omega
    by_cases h12 : b - a ≤ 12
    · refine ⟨insertionSort lt d a b, loopO_inr ?_, insertionSort_holds hS d a b hab hb⟩
      show sort_pdqsort_func_b1 α lf rf a b lim wb wp d.toList = _
      unfold sort_pdqsort_func_b1
      rw [e0, show decide (((b - a : Nat) : Int) ≤ 12) = true from by simp only [decide_eq_true_eq]; omega, if_pos rfl, ins_eq hL hb hab (by omega)]
      rfl
    · have h12f : decide (((b - a : Nat) : Int) ≤ 12) = false := by simp only [decide_eq_false_iff_not]; omega
      by_cases h0 : lim = 0
      · refine ⟨heapSort lt d a b, loopO_inr ?_, heapSort_holds hS d a b hab hb⟩
        show sort_pdqsort_func_b1 α lf rf a b lim wb wp d.toList = _
        unfold sort_pdqsort_func_b1
        rw [e0, h12f, show decide (lim = 0) = true from by simpa using h0, heap_eq hL hb (by omega) (by omega)]
        rfl
      · obtain ⟨d1, lim1, hb1, hp1⟩ : ∃ (d1 : Array α) (lim1 : Int), sort_pdqsort_func_b1 α lf rf a b lim wb wp d.toList = sort_pdqsort_func_k3 α lf rf a b wb wp lim1 d1.toList ∧ PermIn a b d d1 := by
          unfold sort_pdqsort_func_b1
          rw [e0, h12f, show decide (lim = 0) = false from by simpa using h0]
          simp only [Bool.false_eq_true, if_false]
          cases wb with
          | true => exact ⟨d, lim, rfl, permIn_refl d a b⟩
          | false =>
            obtain ⟨d1, e1, hp⟩ := brk (lf := lf) (d := d) (a := a) (b := b) (by omega) hb hd
            rw [e1]
            exact ⟨d1, sb lim 1, rfl, hp⟩
        have z1 : d1.size = d.size := hp1.1
        have hB1 := hB.perm hb hp1
        obtain ⟨d2, pv, h2, hb2, hp2, hr1, hr2⟩ : ∃ (d2 : Array α) (pv : Nat) (h2 : Int), sort_pdqsort_func_k3 α lf rf a b wb wp lim1 d1.toList = sort_pdqsort_func_k4 α lf rf a b wb wp lim1 pv h2 d2.toList ∧ PermIn a b d1 d2 ∧ a ≤ pv ∧ pv < b := by
          unfold sort_pdqsort_func_k3
          obtain ⟨p, h, e, q1, q2⟩ := piv (lt := lt) hL (d := d1) (a := a) (b := b) (by omega) (by omega) (by omega)
          rw [e, bind_some']
          simp only []
          by_cases hh : h = 2
          · rw [show decide (h = 2) = true from by simpa using hh, if_pos rfl, rev_eq (lf := lf) (by omega) (by omega) (by omega), bind_some',
              show sb (b : Int) 1 = ((b - 1 : Nat) : Int) from by rw [sbn (by omega) (by omega) (by omega) (by omega)]; omega, show sb (p : Int) (a : Int) = ((p - a : Nat) : Int) from by rw [sbn (by omega) (by omega) (by omega) (by omega)]; omega,
              show sb ((b - 1 : Nat) : Int) ((p - a : Nat) : Int) = ((b - 1 - (p - a) : Nat) : Int) from by rw [sbn (by omega) (by omega) (by omega) (by omega)]; omega]
            exact ⟨_, b - 1 - (p - a), 1, rfl, reverseRange_holds d1 a b hab (by omega), by omega, by omega⟩
          · rw [show decide (h = 2) = false from by simpa using hh]
            exact ⟨d1, p, h, rfl, permIn_refl d1 a b, q1, q2⟩
        have z2 : d2.size = d1.size := hp2.1
        have hB2 := hB1.perm (by omega) hp2
        have k5 : ∀ d3 : Array α, PermIn a b d2 d3 → sort_pdqsort_func_b1 α lf rf a b lim wb wp d.toList = sort_pdqsort_func_k5 α lf rf a b wb wp lim1 pv d3.toList →
            ∃ d' : Array α, sort_pdqsort_func_l1 α lf rf ((a : Int), (b : Int), lim, wb, wp, d.toList) = some d'.toList ∧ PermIn a b d d' ∧ SortedIn lt a b d' := by
          intro d3 hp3 he
          have z3 : d3.size = d2.size := hp3.1
          obtain ⟨x, y, wb', wp', D, e5, g1, g2, g3, g4, g5, g6⟩ := pdq_k5 hS hL hrf (lim := lim1) (wb := wb) (wp := wp) (p := pv) (d := d3) (a := a) (b := b) (by omega) (by omega) (by omega) (by omega) (hB2.perm (by omega) hp3) hr1 hr2
          obtain ⟨R, eR, hR1, hR2⟩ := ih (y - x) (by omega) x y D lim1 wb' wp' (Nat.le_refl _) g1 (by omega) (by omega) (by omega) g5
          obtain ⟨w1, w2⟩ := g6 R hR1 hR2
          exact ⟨R, (loopO_inl (he.trans e5)).trans eR, permIn_trans _ _ _ a b hp1 (permIn_trans _ _ _ a b hp2 (permIn_trans _ _ _ a b hp3 w1)), w2⟩
        have hb3 := hb1.trans hb2
        unfold sort_pdqsort_func_k4 at hb3
        rw [bind_some'] at hb3
        by_cases hw : (wb && wp && decide (h2 = 1)) = true
        · rw [if_pos hw, pinsert_eq hL (by omega) (by omega) (by omega), bind_some'] at hb3
          obtain ⟨i1, i2⟩ := partialInsertionSort_holds hS d2 a b (by omega) (by omega) hB2
          cases hq : (partialInsertionSort lt d2 a b).2 with
          | true =>
            rw [hq] at hb3
            exact ⟨_, loopO_inr hb3, permIn_trans _ _ _ a b hp1 (permIn_trans _ _ _ a b hp2 i1), i2 hq⟩
          | false =>
            rw [hq] at hb3
            exact k5 _ i1 hb3
        · rw [if_neg hw] at hb3
          exact k5 d2 (permIn_refl d2 a b) hb3
def mm : Nat → Nat
  | 0 => 0
  | k + 1 => max 13 (2 * mm k)
theorem pdq_r (hS : SWO lt) (hL : LfA lt lf) : ∀ (fu : Nat) (d : Array α) (a b : Nat) (lim : Int), a ≤ b → b ≤ d.size → d.size < 128 → b - a < mm fu → Below lt a b d →
    ∃ d' : Array α, sort_pdqsort_func_r α lf fu d.toList a b lim = some d'.toList ∧ PermIn a b d d' ∧ SortedIn lt a b d' := by
  intro fu
  induction fu with
  | zero => intro d a b lim _ _ _ h; exact absurd h (Nat.not_lt_zero _)
  | succ fu ih =>
    intro d a b lim hab hb hd hm hB
    rw [mm] at hm
    exact pdq_loop hS hL (m := mm fu) ih _ a b d lim true true (Nat.le_refl _) hab hb hd (by omega) hB
theorem srt_all (hS : SWO lt) (hL : LfA lt lf) {d : Array α} (hd : d.size < 128) : ∃ d' : Array α, srtO (fun l a b m => sort_pdqsort_func 12 α lf l a b m) d.toList = some d'.toList ∧ PermIn 0 d.size d d' ∧ SortedIn lt 0 d.size d' := by
  unfold srtO
  by_cases h1 : d.size ≤ 1
  · rw [if_pos (by simpa using h1)]
    exact ⟨d, rfl, permIn_refl d 0 d.size, fun i j h0 hij hj => absurd hj (by omega)⟩
  · rw [if_neg (by simpa using h1), if_pos (by simp; omega)]
    have hmm : mm 12 = 26624 := by decide
    obtain ⟨d', e, hp, hs⟩ := pdq_r hS hL 12 d 0 d.size (Go.Lib.bitLen d.size) (Nat.zero_le _) (Nat.le_refl _) hd (by omega) (.inl rfl)
    refine ⟨d', ?_, hp, hs⟩
    have e : sort_pdqsort_func_r α lf 12 d.toList 0 (d.toList.length : Int) (Go.Lib.bitLen d.toList.length) = some d'.toList := by
      simpa using e
    unfold sort_pdqsort_func
    simp only []
    rw [e, bind_some', if_pos (by simpa using hp.1)]
end
end Go.Proofs.Ytnmkonlfnpcoiaa.Pl
