import Derived.Test.YtopnbammdeimcaaP03b
import Derived.Test.YtopnbammdeimcaaCompact
namespace Go.Proofs.Ytopnbammdeimcaa.Pl
def rnd (n d : Int) : Int := if d ≤ 2 * (n % d) then n / d + 1 else n / d
theorem Floor_eq {n d : Int} (hd : 1 ≤ d ∧ d ≤ 1152921504606846976) (hn : -1152921504606846976 ≤ n ∧ n ≤ 1152921504606846976) : exact_Floor n d = some (n / d, true) := by
  unfold exact_Floor
  have h0 : ¬ d = 0 := by omega
  simp only [within_eq, decide_eq_true hd, decide_eq_true hn, bind_some', Bool.not_true, Bool.not_false, gd_true, Bool.or_self, Bool.false_eq_true, if_false, quK, rmK, if_neg h0, exact_Floor_k1]
  have hq : -1152921504606846976 ≤ n / d ∧ n / d ≤ 1152921504606846976 := by
    constructor
    · exact (Int.le_ediv_iff_mul_le (by omega)).2 (by
        have := Int.mul_le_mul_of_nonneg_left (show (1 : Int) ≤ d by omega) (show (0 : Int) ≤ 1152921504606846976 by omega)
        omega)
    · rcases Int.le_total 0 n with h | h
      · have := Int.ediv_le_self d h; omega
      · have : n / d ≤ 0 := by
          have := Int.ediv_le_ediv (show 0 < d by omega) h
          simpa using this
        omega
  rcases Int.le_total 0 n with h | h
  · rw [Int.tdiv_eq_ediv_of_nonneg h, Int.tmod_eq_emod_of_nonneg h, decide_eq_true (Int.emod_nonneg n h0), if_pos rfl, IntWalk.i64_in _ (by omega)]
  · have e1 := Int.tdiv_eq_ediv (a := n) (b := d)
    have e2 := Int.tmod_eq_emod (a := n) (b := d)
    have hm := Int.emod_nonneg n h0
    have hl := Int.emod_lt_of_pos n (show 0 < d by omega)
    by_cases hz : d ∣ n
    · have hz' : n % d = 0 := Int.emod_eq_zero_of_dvd hz
      rw [if_pos (.inr hz)] at e1 e2
      rw [e1, e2, hz', decide_eq_true (by omega), if_pos rfl, IntWalk.i64_in _ (by omega)]
      congr 2; omega
    · by_cases hn0 : 0 ≤ n
      · have : n = 0 := by omega
        subst this
        exact absurd (Int.dvd_zero d) hz
      · rw [if_neg (by rintro (h' | h'); exact hn0 h'; exact hz h')] at e1 e2
        have hs : d.sign = 1 := Int.sign_eq_one_of_pos (by omega)
        have hna : (d.natAbs : Int) = d := by omega
        rw [e1, e2, hs, hna, decide_eq_false (by omega), if_neg Bool.false_ne_true, IntWalk.i64_in _ (by omega), sb_in (by omega)]
        congr 2; omega
theorem Round_eq {n d : Int} (hd : 1 ≤ d ∧ d ≤ 33554432) (hn : -1125899906842624 ≤ n ∧ n ≤ 1125899906842624) : exact_Round n d = some (rnd n d, true) := by
  unfold exact_Round
  have h0 : ¬ d = 0 := by omega
  have hm := Int.emod_nonneg n h0
  have hl := Int.emod_lt_of_pos n (show 0 < d by omega)
  have he := Int.mul_ediv_add_emod n d
  have hq : -1125899906842625 ≤ n / d ∧ n / d ≤ 1125899906842625 := by
    constructor
    · exact (Int.le_ediv_iff_mul_le (by omega)).2 (by omega)
    · exact Int.le_of_lt ((Int.ediv_lt_iff_lt_mul (by omega)).2 (by omega))
  have hqd : n / d * d = n - n % d := by rw [Int.mul_comm]; omega
  rw [Floor_eq (by omega) (by omega), bind_some']
  simp only [Bool.not_true, Bool.false_eq_true, if_false, exact_Round_k1]
  rw [ml_in (by omega), hqd, sb_in (x := n) (by omega), sb_in (by omega), ad_in (by omega)]
  unfold rnd
  by_cases h : d ≤ 2 * (n % d)
  · rw [decide_eq_true (by omega), if_pos rfl, if_pos h]
  · rw [decide_eq_false (by omega), if_neg Bool.false_ne_true, if_neg h]
theorem rnd_between {n d a b : Int} (hd : 0 < d) (h1 : a * d ≤ n) (h2 : n ≤ b * d) : a ≤ rnd n d ∧ rnd n d ≤ b := by
  have hm := Int.emod_nonneg n (show d ≠ 0 by omega)
  have he := Int.mul_ediv_add_emod n d
  have q1 : a ≤ n / d := (Int.le_ediv_iff_mul_le hd).2 h1
  unfold rnd
  split
  · refine ⟨by omega, ?_⟩
    have : n / d < b := Int.lt_of_mul_lt_mul_left (a := d) (by rw [Int.mul_comm d b]; omega) (by omega)
    omega
  · refine ⟨q1, Int.le_of_mul_le_mul_left (a := d) (by rw [Int.mul_comm d b]; omega) hd⟩
def atx (p q : Pt) (c : Int) : Int := rnd (p.2 * (q.1 - p.1) + (q.2 - p.2) * (c - p.1)) (q.1 - p.1)
theorem atx_between {p q : Pt} {c : Int} (h : p.1 < c ∧ c < q.1) : min p.2 q.2 ≤ atx p q c ∧ atx p q c ≤ max p.2 q.2 := by
  unfold atx
  have e : p.2 * (q.1 - p.1) + (q.2 - p.2) * (c - p.1) = p.2 * (q.1 - c) + q.2 * (c - p.1) := by grind
  rw [e]
  have a1 := Int.mul_le_mul_of_nonneg_right (show min p.2 q.2 ≤ p.2 by omega) (show 0 ≤ q.1 - c by omega)
  have a2 := Int.mul_le_mul_of_nonneg_right (show min p.2 q.2 ≤ q.2 by omega) (show 0 ≤ c - p.1 by omega)
  have a3 := Int.mul_le_mul_of_nonneg_right (show p.2 ≤ max p.2 q.2 by omega) (show 0 ≤ q.1 - c by omega)
  have a4 := Int.mul_le_mul_of_nonneg_right (show q.2 ≤ max p.2 q.2 by omega) (show 0 ≤ c - p.1 by omega)
  refine rnd_between (by omega) ?_ ?_
  · have : min p.2 q.2 * (q.1 - p.1) = min p.2 q.2 * (q.1 - c) + min p.2 q.2 * (c - p.1) := by rw [← Int.mul_add]; congr 1; omega
    omega
  · have : max p.2 q.2 * (q.1 - p.1) = max p.2 q.2 * (q.1 - c) + max p.2 q.2 * (c - p.1) := by rw [← Int.mul_add]; congr 1; omega
    omega
def Ct (p q c : Int) : Prop := p < c ∧ c < q ∨ q < c ∧ c < p
instance (p q c : Int) : Decidable (Ct p q c) := by unfold Ct; infer_instance
def aty (p q : Pt) (c : Int) : Int := if q.1 < p.1 then atx q p c else atx p q c
theorem AtX_k1_eq (c : Int) (p q : Pt) : seg_AtX_k1 c p q = some (if (May p ∧ May q) ∧ p.1 < c ∧ c < q.1 then (atx p q c, true) else (0, false)) := by
  unfold seg_AtX_k1
  rw [Right_eq _ (by simp), bind_some']
  have hr : decide (∀ x ∈ [p, q], May x) = decide (May p ∧ May q) := by rw [Bool.eq_iff_iff]; simp
  rw [hr]
  by_cases h : May p ∧ May q
  · rw [decide_eq_true h]
    by_cases h2 : p.1 < c ∧ c < q.1
    · rw [if_pos ⟨h, h2⟩, decide_eq_false (show ¬ c ≤ p.1 by omega), decide_eq_false (show ¬ q.1 ≤ c by omega)]
      simp only [Bool.not_true, Bool.or_self, bind_some', Bool.false_eq_true, if_false]
      obtain ⟨hp, hq⟩ := h
      unfold May at hp hq
      have m1 := ml_25 (a := p.2) (b := q.1 - p.1) (by omega) (by omega)
      have m2 := ml_25 (a := q.2 - p.2) (b := c - p.1) (by omega) (by omega)
      rw [sb_in (x := q.1) (by omega), sb_in (x := q.2) (by omega), sb_in (x := c) (by omega), m1.1, m2.1, ad_in (by omega)]
      have e : p.2 * (q.1 - p.1) + (q.2 - p.2) * (c - p.1) = p.2 * (q.1 - c) + q.2 * (c - p.1) := by grind
      have n1 := abs_mul (a := p.2) (b := q.1 - p.1) (A := 16777216) (B := 33554432) (by omega) (by omega)
      have n2 := abs_mul (a := p.2) (b := q.1 - c) (A := 16777216) (B := 33554432) (by omega) (by omega)
      have n3 := abs_mul (a := q.2) (b := c - p.1) (A := 16777216) (B := 33554432) (by omega) (by omega)
      rw [Round_eq (by omega) (by omega), bind_some']
      rfl
    · rw [if_neg (fun h' => h2 h'.2)]
      have : (decide (c ≤ p.1) || decide (q.1 ≤ c)) = true := by
        rw [Bool.or_eq_true, decide_eq_true_eq, decide_eq_true_eq]; omega
      simp only [Bool.not_true, Bool.false_or, this, bind_some', if_true]
  · rw [decide_eq_false h, if_neg (fun h' => h h'.1)]
    simp only [Bool.not_false, Bool.true_or, bind_some', if_true]
theorem AtX_eq (p q : Pt) (c : Int) : seg_AtX p q c = some (if (May p ∧ May q) ∧ Ct p.1 q.1 c then (aty p q c, true) else (0, false)) := by
  unfold seg_AtX aty Ct
  by_cases h : q.1 < p.1
  · rw [if_pos (by simpa using h), AtX_k1_eq, if_pos h]
    by_cases h2 : (May q ∧ May p) ∧ q.1 < c ∧ c < p.1
    · rw [if_pos h2, if_pos ⟨h2.1.symm, .inr h2.2⟩]
    · rw [if_neg h2, if_neg (fun h' => h2 ⟨h'.1.symm, by omega⟩)]
  · rw [if_neg (by simpa using h), AtX_k1_eq, if_neg h]
    by_cases h2 : (May p ∧ May q) ∧ p.1 < c ∧ c < q.1
    · rw [if_pos h2, if_pos ⟨h2.1, .inl h2.2⟩]
    · rw [if_neg h2, if_neg (fun h' => h2 ⟨h'.1, by omega⟩)]
def fl (y : Bool) (p : Pt) : Pt := if y then (p.2, p.1) else p
theorem May_flip (p : Pt) : May (p.2, p.1) ↔ May p := by unfold May; simp only; omega
def Ctp (p q : Pt) (c : Int) (y : Bool) : Prop := (May p ∧ May q) ∧ Ct (fl y p).1 (fl y q).1 c
instance (p q : Pt) (c : Int) (y : Bool) : Decidable (Ctp p q c y) := by unfold Ctp; infer_instance
def ctp (p q : Pt) (c : Int) (y : Bool) : Pt := fl y (c, if Ctp p q c y then aty (fl y p) (fl y q) c else 0)
theorem cut_eq (p q : Pt) (c : Int) (y : Bool) : polyclip_cut p q c y = some (ctp p q c y, decide (Ctp p q c y)) := by
  unfold polyclip_cut ctp
  cases y
  · simp only [Bool.false_eq_true, if_false, AtX_eq, bind_some', fl]
    unfold Ctp
    simp only [fl, Bool.false_eq_true, if_false]
    by_cases h : (May p ∧ May q) ∧ Ct p.1 q.1 c
    · rw [if_pos h, if_pos h, decide_eq_true h]
    · rw [if_neg h, if_neg h, decide_eq_false h]
  · simp only [if_true, seg_AtY, seg_flip, AtX_eq, bind_some', fl]
    unfold Ctp
    simp only [fl, if_true, May_flip]
    by_cases h : (May p ∧ May q) ∧ Ct p.2 q.2 c
    · rw [if_pos h, if_pos h, decide_eq_true h]
    · rw [if_neg h, if_neg h, decide_eq_false h]
def far (c : Int) (up y : Bool) (p : Pt) : Int := if (fl y p).1 = c then 0 else if decide (c < (fl y p).1) = up then 1 else -1
theorem far_bd (c : Int) (up y : Bool) (p : Pt) : -1 ≤ far c up y p ∧ far c up y p ≤ 1 := by unfold far; split <;> (try split) <;> omega
theorem far_eq (c : Int) (up y : Bool) (p : Pt) : polyclip_Half_1 p y c up = some (far c up y p) := by
  unfold polyclip_Half_1 polyclip_Half_1_k1 far fl
  cases y <;> simp only [Bool.false_eq_true, if_false, if_true, decide_eq_true_eq, beq_iff_eq] <;> split <;> (try split) <;> rfl
def hfe (c : Int) (up y : Bool) (e : Pt × Pt) : List Pt := (if 0 ≤ far c up y e.1 then [e.1] else []) ++ (if 0 ≤ far c up y e.1 * far c up y e.2 then [] else if Ctp e.1 e.2 c y then [ctp e.1 e.2 c y] else [])
def hf (c : Int) (up y : Bool) (l : List Pt) : List Pt := (edg l).flatMap (hfe c up y)
theorem hfe_len (c : Int) (up y : Bool) (e : Pt × Pt) : (hfe c up y e).length ≤ 2 := by
  unfold hfe; rw [List.length_append]; split <;> split <;> (try split) <;> simp
theorem flat_len {X : Type} {f : X → List Pt} (h : ∀ x, (f x).length ≤ 2) : ∀ L : List X, (L.flatMap f).length ≤ 2 * L.length
  | [] => by simp
  | x :: r => by
    have := flat_len h r
    have := h x
    rw [List.flatMap_cons, List.length_append, List.length_cons]; omega
theorem hf_len (c : Int) (up y : Bool) (l : List Pt) : (hf c up y l).length ≤ 2 * l.length := by
  have := flat_len (hfe_len c up y) (edg l)
  rwa [edg_len] at this
theorem Half_eq {l : List Pt} (c : Int) (up y : Bool) (hn : l.length ≤ 100000) : polyclip_Half l c up y = some (hf c up y l) := by
  unfold polyclip_Half polyclip_Half_l1
  have hl := edg_len l
  exact loopO_nat (body := fun s => polyclip_Half_b1 l c up y s.1 s.2) (fun k => (((edg l).take k).flatMap (hfe c up y), (k : Int))) l.length (hf c up y l) (fun k hk => by
    unfold polyclip_Half_b1 polyclip_Half_k3 polyclip_Half_k2
    have hc := flat_len (hfe_len c up y) ((edg l).take k)
    rw [List.length_take] at hc
    simp only
    rw [decide_eq_true (show (k : Int) < (l.length : Int) by omega), if_pos rfl, ix_getD (0, 0) hk, bind_some', ad_one (by omega), rm_nat (by omega), bind_some', ix_getD (0, 0) (Nat.mod_lt _ (by omega)), bind_some', snoc_take ((0, 0), (0, 0)) (show k < (edg l).length by omega), edg_at hk, List.flatMap_append]
    generalize l.getD k (0, 0) = p
    generalize l.getD ((k + 1) % l.length) (0, 0) = q
    generalize ((edg l).take k).flatMap (hfe c up y) = out at *
    have f1 := far_bd c up y p
    have f2 := far_bd c up y q
    simp only [far_eq, cut_eq, bind_some', List.flatMap_cons, List.flatMap_nil, List.append_nil, hfe]
    have hml : ml (far c up y p) (far c up y q) = far c up y p * far c up y q := by
      have := abs_mul (A := 1) (B := 1) f1 f2
      exact ml_in (by omega)
    rw [hml]
    by_cases g1 : 0 ≤ far c up y p
    · rw [decide_eq_true g1, if_pos rfl, if_pos g1, app_at (by simp [capB]; omega), bind_some']
      by_cases g2 : 0 ≤ far c up y p * far c up y q
      · rw [decide_eq_true g2, if_pos rfl, if_pos g2, List.append_nil]
      · rw [decide_eq_false g2, if_neg Bool.false_ne_true, if_neg g2]
        by_cases g3 : Ctp p q c y
        · rw [decide_eq_true g3, if_pos rfl, if_pos g3, app_at (by simp [capB]; omega), bind_some', List.append_assoc]
        · rw [decide_eq_false g3, if_neg Bool.false_ne_true, if_neg g3, List.append_nil]
    · rw [decide_eq_false g1, if_neg Bool.false_ne_true, if_neg g1, List.nil_append]
      by_cases g2 : 0 ≤ far c up y p * far c up y q
      · rw [decide_eq_true g2, if_pos rfl, if_pos g2, List.append_nil]
      · rw [decide_eq_false g2, if_neg Bool.false_ne_true, if_neg g2]
        by_cases g3 : Ctp p q c y
        · rw [decide_eq_true g3, if_pos rfl, if_pos g3, app_at (by simp [capB]; omega), bind_some']
        · rw [decide_eq_false g3, if_neg Bool.false_ne_true, if_neg g3, List.append_nil]) (by
    unfold polyclip_Half_b1
    simp only
    rw [decide_eq_false (by omega), if_neg Bool.false_ne_true, List.take_of_length_le (by omega)]; rfl)
end Go.Proofs.Ytopnbammdeimcaa.Pl
