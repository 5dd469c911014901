/-
  Chapter 22, plainly: both answers are one; the parts of any row. No program in sight.
-/
import Derived.Test.YthjcpojcpafbjaaP22j
namespace Go.Proofs.Ythjcpojcpafbjaa.Pl

theorem fr_le_trans {a b c d e f : Int} (hb : 0 < b) (hd : 0 < d) (hf : 0 < f) (h1 : a * d ≤ c * b) (h2 : c * f ≤ e * d) : a * f ≤ e * b := by
  apply Classical.byContradiction
  intro h
  have h3 : e * b < a * f := by omega
  have := fr_lt_le (a := a) (b := b) (c := c) (d := d) (e := e) (f := f) hb hd hf h3 h1
  omega
theorem pick_max {P : Int × Int → Prop} : ∀ (L : List (Int × Int)), (∀ u ∈ L, 0 < u.2) → (∃ u ∈ L, P u) → ∃ u ∈ L, P u ∧ ∀ v ∈ L, P v → v.1 * u.2 ≤ u.1 * v.2
  | [], _, ⟨u, hu, _⟩ => by simp at hu
  | w :: L, hL, ⟨u, hu, hp⟩ => by
    have hw := hL w (by simp)
    by_cases hex : ∃ u ∈ L, P u
    · obtain ⟨m, hm, hpm, hmax⟩ := pick_max L (fun u hu => hL u (by simp [hu])) hex
      have hm0 := hL m (by simp [hm])
      by_cases hpw : P w
      · by_cases hle : w.1 * m.2 ≤ m.1 * w.2
        · refine ⟨m, by simp [hm], hpm, fun v hv hpv => ?_⟩
          rcases List.mem_cons.1 hv with rfl | hv
          · exact hle
          · exact hmax v hv hpv
        · refine ⟨w, by simp, hpw, fun v hv hpv => ?_⟩
          rcases List.mem_cons.1 hv with rfl | hv
          · exact Int.le_refl _
          · exact fr_le_trans (hL v (by simp [hv])) hm0 hw (hmax v hv hpv) (by omega)
      · refine ⟨m, by simp [hm], hpm, fun v hv hpv => ?_⟩
        rcases List.mem_cons.1 hv with rfl | hv
        · exact (hpw hpv).elim
        · exact hmax v hv hpv
    · have hpw : P w := by
        rcases List.mem_cons.1 hu with rfl | hu
        · exact hp
        · exact (hex ⟨u, hu, hp⟩).elim
      refine ⟨w, by simp, hpw, fun v hv hpv => ?_⟩
      rcases List.mem_cons.1 hv with rfl | hv
      · exact Int.le_refl _
      · exact (hex ⟨v, hv, hpv⟩).elim
theorem pick_min {P : Int × Int → Prop} (L : List (Int × Int)) (hL : ∀ u ∈ L, 0 < u.2) (h : ∃ u ∈ L, P u) : ∃ u ∈ L, P u ∧ ∀ v ∈ L, P v → u.1 * v.2 ≤ v.1 * u.2 := by
  obtain ⟨u, hu, hp⟩ := h
  have := pick_max (P := fun z => P (-z.1, z.2)) (L.map fun z => (-z.1, z.2)) (fun z hz => by
    obtain ⟨y, hy, rfl⟩ := List.mem_map.1 hz
    exact hL y hy) ⟨(-u.1, u.2), List.mem_map.2 ⟨u, hu, rfl⟩, by simpa using hp⟩
  obtain ⟨m, hm, hpm, hmax⟩ := this
  obtain ⟨y, hy, rfl⟩ := List.mem_map.1 hm
  refine ⟨y, hy, by simpa using hpm, fun v hv hpv => ?_⟩
  have := hmax (-v.1, v.2) (List.mem_map.2 ⟨v, hv, rfl⟩) (by simpa using hpv)
  simp only at this
  rw [Int.neg_mul, Int.neg_mul] at this
  omega
theorem sg_pos {n : Int} (h : 0 < n) : sg n = 1 := if_pos h
theorem sg_neg {n : Int} (h : n < 0) : sg n = -1 := by unfold sg; rw [if_neg (by omega), if_pos h]
/-- Where a line is crossed is a place. -/
theorem cross_mem {p q : Pt} {b : Bx} : ∀ x ∈ four p q b, (0 < x.2 → (-x.1, x.2) ∈ Cd p q b) ∧ (x.2 < 0 → (x.1, -x.2) ∈ Cd p q b) := by
  intro x hx
  have hc1 : ∀ f p q z : Int, f = p - z → (0 < q - p → (-f, q - p) ∈ cand p q z) ∧ (q - p < 0 → (f, -(q - p)) ∈ cand p q z) := fun f p q z hf => by
    unfold cand
    refine ⟨fun h => ?_, fun h => ?_⟩
    · rw [if_neg (by omega), sg_pos h, List.mem_singleton, Int.mul_one, Int.mul_one, hf, Int.neg_sub]
    · rw [if_neg (by omega), sg_neg h, List.mem_singleton, Int.mul_neg, Int.mul_neg, Int.mul_one, Int.mul_one, hf, Int.neg_sub, Int.neg_sub]
  have hc2 : ∀ f p q z : Int, f = z - p → (0 < p - q → (-f, p - q) ∈ cand p q z) ∧ (p - q < 0 → (f, -(p - q)) ∈ cand p q z) := fun f p q z hf => by
    unfold cand
    refine ⟨fun h => ?_, fun h => ?_⟩
    · rw [if_neg (by omega), sg_neg (show q - p < 0 by omega), List.mem_singleton, Int.mul_neg, Int.mul_neg, Int.mul_one, Int.mul_one, hf, Int.neg_sub q p]
    · rw [if_neg (by omega), sg_pos (show 0 < q - p by omega), List.mem_singleton, Int.mul_one, Int.mul_one, hf, Int.neg_sub]
  simp only [four, List.mem_cons, List.not_mem_nil, or_false] at hx
  unfold Cd
  simp only [List.mem_append]
  rcases hx with rfl | rfl | rfl | rfl
  · have := hc1 (p.1 - b.1.1) p.1 q.1 b.1.1 rfl
    exact ⟨fun h => .inl (.inr (.inl (this.1 h))), fun h => .inl (.inr (.inl (this.2 h)))⟩
  · have := hc2 (b.2.1 - p.1) p.1 q.1 b.2.1 rfl
    exact ⟨fun h => .inr (.inl (this.1 h)), fun h => .inr (.inl (this.2 h))⟩
  · have := hc1 (p.2 - b.1.2) p.2 q.2 b.1.2 rfl
    exact ⟨fun h => .inl (.inr (.inr (this.1 h))), fun h => .inl (.inr (.inr (this.2 h)))⟩
  · have := hc2 (b.2.2 - p.2) p.2 q.2 b.2.2 rfl
    exact ⟨fun h => .inr (.inr (this.1 h)), fun h => .inr (.inr (this.2 h))⟩
theorem mid_lt {u1 u2 v1 v2 : Int} (hu : 0 < u2) (h : u1 * v2 < v1 * u2) : u1 * (2 * (u2 * v2)) < (u1 * v2 + v1 * u2) * u2 := by
  have h1 : (u1 * v2) * u2 < (v1 * u2) * u2 := Int.mul_lt_mul_of_pos_right h hu
  have e1 : u1 * (2 * (u2 * v2)) = (u1 * v2) * u2 + (u1 * v2) * u2 := by
    rw [← Int.mul_assoc, Int.mul_comm u1 2, Int.mul_assoc, Int.mul_comm u2 v2, ← Int.mul_assoc u1]; omega
  rw [e1, Int.add_mul]; omega
theorem lt_mid {u1 u2 v1 v2 : Int} (hv : 0 < v2) (h : u1 * v2 < v1 * u2) : (u1 * v2 + v1 * u2) * v2 < v1 * (2 * (u2 * v2)) := by
  have h1 : (u1 * v2) * v2 < (v1 * u2) * v2 := Int.mul_lt_mul_of_pos_right h hv
  have e1 : v1 * (2 * (u2 * v2)) = (v1 * u2) * v2 + (v1 * u2) * v2 := by
    rw [← Int.mul_assoc, Int.mul_comm v1 2, Int.mul_assoc, ← Int.mul_assoc v1]; omega
  rw [e1, Int.add_mul]; omega
theorem Gd_Ins {p q : Pt} {b : Bx} (hC : ∀ u ∈ Cd p q b, 0 < u.2) : (∃ u ∈ Cd p q b, ∃ v ∈ Cd p q b, Gd p q b u v) ↔ Ins p q b := by
  constructor
  · rintro ⟨u, hu, v, hv, ⟨h1, h2, h3⟩, h4, h5⟩
    have hu0 := hC u hu
    have hv0 := hC v hv
    have hm := Int.mul_pos hu0 hv0
    have a1 := Int.mul_nonneg h1 (Int.le_of_lt hv0)
    have a2 : v.1 * u.2 ≤ v.2 * u.2 := Int.mul_le_mul_of_nonneg_right h2 (Int.le_of_lt hu0)
    rw [Int.mul_comm v.2 u.2] at a2
    refine ⟨u.1 * v.2 + v.1 * u.2, 2 * (u.2 * v.2), by omega, by omega, by omega, fun x hx => ?_⟩
    simp only [four, List.mem_cons, List.not_mem_nil, or_false] at hx
    rcases hx with rfl | rfl | rfl | rfl
    · exact h4.1
    · exact h4.2
    · exact h5.1
    · exact h5.2
  · rintro ⟨n, d, hd, hn, hnd, hc⟩
    obtain ⟨u, hu, ⟨hu1, hu2⟩, humax⟩ := pick_max (P := fun u => 0 ≤ u.1 ∧ u.1 * d < n * u.2) (Cd p q b) hC ⟨(0, 1), by simp [Cd], by simp, by simp; exact hn⟩
    obtain ⟨v, hv, ⟨hv1, hv2⟩, hvmin⟩ := pick_min (P := fun v => v.1 ≤ v.2 ∧ n * v.2 < v.1 * d) (Cd p q b) hC ⟨(1, 1), by simp [Cd], by simp, by simp; exact hnd⟩
    have hu0 := hC u hu
    have hv0 := hC v hv
    have huv : u.1 * v.2 < v.1 * u.2 := fr_trans hu0 hd hv0 hu2 hv2
    have hm := Int.mul_pos hu0 hv0
    have a1 := Int.mul_nonneg hu1 (Int.le_of_lt hv0)
    have a2 : v.1 * u.2 ≤ v.2 * u.2 := Int.mul_le_mul_of_nonneg_right hv1 (Int.le_of_lt hu0)
    rw [Int.mul_comm v.2 u.2] at a2
    have hall : ∀ x ∈ four p q b, Cn x (u.1 * v.2 + v.1 * u.2) (2 * (u.2 * v.2)) := by
      intro x hx
      have hcx := hc x hx
      obtain ⟨k1, k2⟩ := cross_mem x hx
      have g1 := mid_lt (u1 := u.1) (u2 := u.2) (v1 := v.1) (v2 := v.2) hu0 huv
      have g2 := lt_mid (u1 := u.1) (u2 := u.2) (v1 := v.1) (v2 := v.2) hv0 huv
      have hM : 0 < u.1 * v.2 + v.1 * u.2 := by omega
      have hMD : u.1 * v.2 + v.1 * u.2 < 2 * (u.2 * v.2) := by omega
      have hD : 0 < 2 * (u.2 * v.2) := by omega
      generalize u.1 * v.2 + v.1 * u.2 = M at g1 g2 hM hMD ⊢
      generalize 2 * (u.2 * v.2) = D at g1 g2 hMD hD ⊢
      unfold Cn at hcx ⊢
      rcases Int.lt_trichotomy x.2 0 with h | h | h
      · have hmem := k2 h
        have hw : 0 < -x.2 := by omega
        have hlt : n * -x.2 < x.1 * d := by rw [Int.mul_neg, Int.mul_comm n]; omega
        have goal : M * -x.2 < x.1 * D := by
          by_cases hle : x.1 ≤ -x.2
          · have h6 := hvmin _ hmem ⟨hle, hlt⟩
            exact fr_lt_le hv0 hw hD g2 h6
          · have e1 : M * -x.2 < D * -x.2 := Int.mul_lt_mul_of_pos_right hMD hw
            have e2 : D * -x.2 ≤ D * x.1 := Int.mul_le_mul_of_nonneg_left (by omega) (by omega)
            rw [Int.mul_comm x.1 D]; omega
        rw [Int.mul_neg, Int.mul_comm M] at goal
        omega
      · rw [h, Int.zero_mul] at hcx ⊢
        have hx1 : 0 < x.1 := by
          apply Classical.byContradiction
          intro h7
          have := Int.mul_nonpos_of_nonpos_of_nonneg (show x.1 ≤ 0 by omega) (Int.le_of_lt hd)
          omega
        have := Int.mul_pos hx1 hD
        omega
      · have hmem := k1 h
        have hlt : -x.1 * d < n * x.2 := by rw [Int.neg_mul, Int.mul_comm n]; omega
        have goal : -x.1 * D < M * x.2 := by
          by_cases hle : 0 ≤ -x.1
          · have h6 := humax _ hmem ⟨hle, hlt⟩
            exact fr_le_lt hu0 h hD h6 g1
          · have e1 : -x.1 * D < 0 := Int.mul_neg_of_neg_of_pos (by omega) hD
            have e2 : 0 < M * x.2 := Int.mul_pos hM h
            omega
        rw [Int.neg_mul, Int.mul_comm M] at goal
        omega
    exact ⟨u, hu, v, hv, ⟨hu1, hv1, huv⟩, ⟨hall _ (by simp [four]), hall _ (by simp [four])⟩, ⟨hall _ (by simp [four]), hall _ (by simp [four])⟩⟩
theorem refMeets_eq (l : List Pt) (b : Bx) (hn : l.length ≤ 1000000) : ∃ r, ref22_Meets l b = some r ∧ (r = true ↔ ∃ i, 0 < i ∧ i < l.length ∧ Edg (l.getD (i - 1) (0, 0)) (l.getD i (0, 0)) b) := by
  unfold ref22_Meets ref22_Meets_l1
  by_cases h0 : l.length = 0
  · refine ⟨false, loopO_inr ?_, ?_⟩
    · unfold ref22_Meets_b1
      rw [if_neg (by simp only [decide_eq_true_eq]; omega)]; rfl
    · simp only [Bool.false_eq_true, false_iff]
      rintro ⟨i, h1, h2, _⟩; omega
  refine loopO_rule (body := fun s => ref22_Meets_b1 l b s) (fun s => ∃ k : Nat, s = k ∧ 0 < k ∧ k ≤ l.length ∧ ∀ i, 0 < i → i < k → ¬ Edg (l.getD (i - 1) (0, 0)) (l.getD i (0, 0)) b) (fun s => l.length - s.toNat) _ ?_ (s := 1) ⟨1, rfl, by omega, by omega, fun i h1 h2 => by omega⟩
  rintro _ ⟨k, rfl, hk0, hk, hno⟩
  unfold ref22_Meets_b1
  by_cases hlt : k < l.length
  · have es : sb (k : Int) 1 = ((k - 1 : Nat) : Int) := sb_one (by omega) hk0
    have ek : ad (k : Int) 1 = ((k + 1 : Nat) : Int) := ad_one (by omega)
    simp only [dlt hlt, if_true, es, ek, ix_getD (0, 0) hlt, ix_getD (0, 0) (show k - 1 < l.length by omega), bind_some', ref06_Right_eq, ref01_May_eq]
    have hnext : ¬ Edg (l.getD (k - 1) (0, 0)) (l.getD k (0, 0)) b → ∀ i, 0 < i → i < k + 1 → ¬ Edg (l.getD (i - 1) (0, 0)) (l.getD i (0, 0)) b := fun h i h1 h2 => by
      by_cases he : i = k
      · rw [he]; exact h
      · exact hno i h1 (by omega)
    have hms : l.length - ((k + 1 : Nat) : Int).toNat < l.length - (k : Int).toNat := by simp only [Int.toNat_natCast]; omega
    have hfound : Edg (l.getD (k - 1) (0, 0)) (l.getD k (0, 0)) b → ∃ i, 0 < i ∧ i < l.length ∧ Edg (l.getD (i - 1) (0, 0)) (l.getD i (0, 0)) b := fun h => ⟨k, hk0, hlt, h⟩
    generalize l.getD (k - 1) (0, 0) = p at hnext hfound ⊢
    generalize l.getD k (0, 0) = q at hnext hfound ⊢
    have skip : ¬ Edg p q b → (∃ s', (some (.inl ((k + 1 : Nat) : Int)) : Option (Int ⊕ Bool)) = some (.inl s') ∧ (∃ k : Nat, s' = k ∧ 0 < k ∧ k ≤ l.length ∧ ∀ i, 0 < i → i < k → ¬ Edg (l.getD (i - 1) (0, 0)) (l.getD i (0, 0)) b) ∧ l.length - s'.toNat < l.length - (k : Int).toNat) := fun h => ⟨_, rfl, ⟨k + 1, rfl, by omega, by omega, hnext h⟩, hms⟩
    by_cases h1 : p = q
    · have hd1 : (!decide (p = q)) = false := by rw [decide_eq_true h1]; rfl
      simp only [hd1, gd_false, bind_some', Bool.false_and, Bool.false_eq_true, if_false]
      exact .inl (skip fun h => h.1 h1)
    · have hd1 : (!decide (p = q)) = true := by rw [decide_eq_false h1]; rfl
      simp only [hd1, gd_true, bind_some', Bool.true_and]
      by_cases h2 : May p
      · rw [decide_eq_true h2]
        simp only [gd_true, bind_some', Bool.true_and]
        by_cases h3 : May q
        · rw [decide_eq_true h3]
          simp only [gd_true, bind_some']
          by_cases h4 : Rt b
          · obtain ⟨r, hr, hri⟩ := refInside_eq p q b h2 h3 h4
            rw [Gd_Ins fun u hu => (Cd_W h2 h3 h4 u hu).2.1] at hri
            rw [decide_eq_true h4]
            simp only [Bool.and_self, gd_true, bind_some', hr, Bool.true_and]
            cases r with
            | true =>
              simp only [if_true]
              exact .inr ⟨true, rfl, ⟨fun _ => hfound ⟨h1, ⟨h2, h3⟩, h4, hri.1 rfl⟩, fun _ => rfl⟩⟩
            | false =>
              simp only [Bool.false_eq_true, if_false]
              exact .inl (skip fun h => by have := hri.2 h.2.2.2; cases this)
          · rw [decide_eq_false h4]
            simp only [Bool.and_false, gd_false, bind_some', Bool.false_and, Bool.false_eq_true, if_false]
            exact .inl (skip fun h => h4 h.2.2.1)
        · rw [decide_eq_false h3]
          simp only [gd_false, bind_some', Bool.false_and, Bool.false_eq_true, if_false]
          exact .inl (skip fun h => h3 h.2.1.2)
      · rw [decide_eq_false h2]
        simp only [gd_false, bind_some', Bool.false_and, Bool.false_eq_true, if_false]
        exact .inl (skip fun h => h2 h.2.1.1)
  · simp only [dnlt hlt]
    refine .inr ⟨false, rfl, ?_⟩
    simp only [Bool.false_eq_true, false_iff]
    rintro ⟨i, h1, h2, h3⟩
    exact hno i h1 (by omega) h3
/-- How many edges below place i are shown. -/
def nsh (l : List Pt) (b : Bx) : Nat → Nat
  | 0 => 0
  | i + 1 => if i = 0 then 0 else nsh l b i + if sh l b i then 1 else 0
theorem cnt_snoc (o : List (List Pt)) (x : List Pt) : cnt (o ++ [x]) = cnt o + (x.length - 1) := by simp [cnt]
theorem nsh_cnt (l : List Pt) (b : Bx) : ∀ i, i ≤ l.length → cnt (prt l b i).1 = nsh l b i ∧ nsh l b i ≤ i := by
  intro i
  induction i with
  | zero => intro _; simp [prt, nsh, cnt]
  | succ i ih =>
    intro hi
    obtain ⟨h1, h2⟩ := ih (by omega)
    rcases Nat.eq_zero_or_pos i with h0 | h0
    · subst h0; simp [prt, nsh, cnt]
    · have hn : nsh l b (i + 1) = nsh l b i + if sh l b i then 1 else 0 := by rw [nsh, if_neg (by omega)]
      rw [prt_succ h0, hn]
      have hg := prt_goes (l := l) (b := b) i (by omega)
      cases hs : sh l b i with
      | false => simp only [Bool.false_eq_true, if_false]; omega
      | true =>
        simp only [if_true]
        refine ⟨?_, by omega⟩
        cases hgv : (prt l b i).2 with
        | false =>
          simp only [Bool.false_eq_true, if_false]
          rw [cnt_snoc, h1]; rfl
        | true =>
          obtain ⟨f, hf, he, hp⟩ := hg.2 hgv
          simp only [if_true]
          rw [set_last _ (by intro e; rw [e] at hp; simp at hp), cnt_snoc]
          have hlast : (prt l b i).1.getD ((prt l b i).1.length - 1) [] = (l.take i).drop f := by
            conv => lhs; rw [he]
            have hl : ((prt l b i).1.take ((prt l b i).1.length - 1)).length = (prt l b i).1.length - 1 := by rw [List.length_take]; omega
            rw [getD_append_right (by rw [hl, List.length_append, hl]; simp), List.length_append, hl]
            simp
          have e3 := congrArg cnt he
          rw [cnt_snoc, h1] at e3
          rw [hlast, e3, List.length_append, List.length_singleton, List.length_drop, List.length_take]
          omega
theorem law22_LineclipParts_true (x0 : List (Int × Int)) (x1 : (Int × Int) × (Int × Int)) (k0 : ∀ y2 ∈ x0, I64 y2.1 ∧ I64 y2.2) (k1 : (I64 x1.1.1 ∧ I64 x1.1.2) ∧ (I64 x1.2.1 ∧ I64 x1.2.2)) : law22_LineclipParts x0 x1 = some true := by
  unfold law22_LineclipParts law22_LineclipParts_l1 law21_Box
  rw [Cut_eq, bind_some']
  have hm40 : (x0.take 40).length ≤ 40 := by rw [List.length_take]; omega
  generalize x0.take 40 = m at hm40
  rw [Ofs_eq m (by omega), bind_some']
  simp only [law01_Of, bind_some']
  have hfin : ∀ i : Nat, m.length ≤ i → nsh m x1 i = cnt (PP x1 m) → law22_LineclipParts_b1 x1 m m (x1.1, x1.2) (nsh m x1 i : Int) (i : Int) = some (.inr true) := fun i hi hc => by
    unfold law22_LineclipParts_b1
    obtain ⟨r1, e1, h1⟩ := Meets_eq m x1 (by omega)
    obtain ⟨r2, e2, h2⟩ := refMeets_eq m x1 (by omega)
    obtain ⟨t1, t2⟩ := PP_tot x1 m
    have hr : r1 = r2 := by
      have : r1 = true ↔ r2 = true := h1.trans h2.symm
      cases r1 <;> cases r2 <;> simp_all
    subst hr
    have hpp : parts m x1 = PP x1 m := parts_PP m x1
    simp only [dnlt (show ¬ i < m.length by omega), Bool.false_eq_true, if_false, known22, bind_some', gd_true, Parts_eq m x1 (by omega), refParts_eq m x1 (by omega), hpp]
    rw [law22_Same_eq (PP x1 m) (PP x1 m) (by omega) (fun x hx => by have := tot_mem hx; omega)]
    simp only [decide_true, bind_some', Bool.and_self, gd_true, Count_eq m x1 (by omega), hc, e1, e2, Bool.true_and, beq_self_eq_true]
    rfl
  by_cases hm0 : m.length = 0
  · refine loopO_inr ?_
    have : m = [] := List.length_eq_zero_iff.1 hm0
    have h := hfin 1 (by omega) (by subst this; rfl)
    exact h
  have := loopO_nat (body := fun s => law22_LineclipParts_b1 x1 m m (x1.1, x1.2) s.1 s.2) (fun k => ((nsh m x1 (k + 1) : Int), ((k + 1 : Nat) : Int))) (m.length - 1) true (fun k hk => by
    unfold law22_LineclipParts_b1 law22_LineclipParts_k2
    have es : sb ((k + 1 : Nat) : Int) 1 = (k : Int) := by rw [sb_in (by omega)]; omega
    have ek : ad ((k + 1 : Nat) : Int) 1 = ((k + 1 + 1 : Nat) : Int) := ad_one (by omega)
    have hb := (nsh_cnt m x1 (k + 1) (by omega)).2
    have en : ad (nsh m x1 (k + 1) : Int) 1 = ((nsh m x1 (k + 1) + 1 : Nat) : Int) := ad_one (by omega)
    have hn : nsh m x1 (k + 1 + 1) = nsh m x1 (k + 1) + if sh m x1 (k + 1) then 1 else 0 := by rw [nsh, if_neg (by omega)]
    have h1 : ref22_Shown (m.getD k (0, 0)) (m.getD (k + 1) (0, 0)) (x1.1, x1.2) = some (sh m x1 (k + 1)) := by rw [ref22_Shown_eq]; rfl
    have h2 : lineclip_Shown (m.getD k (0, 0)) (m.getD (k + 1) (0, 0)) x1 = some (sh m x1 (k + 1)) := by rw [Shown_eq]; rfl
    simp only [dlt (show k + 1 < m.length by omega), if_true, es, ek, ix_getD (0, 0) (show k < m.length by omega), ix_getD (0, 0) (show k + 1 < m.length by omega), bind_some', h1, h2, beq_self_eq_true, Bool.not_true, Bool.false_eq_true, if_false, en, hn]
    cases sh m x1 (k + 1) <;> simp) (by
    rw [show m.length - 1 + 1 = m.length by omega]
    refine hfin _ (Nat.le_refl _) ?_
    rw [← (nsh_cnt m x1 m.length (Nat.le_refl _)).1, ← parts_PP]; rfl)
  exact this
end Go.Proofs.Ythjcpojcpafbjaa.Pl
