import Derived.Test.YtaobbaohelpdgaaP26c
namespace Go.Proofs.Ytaobbaohelpdgaa.Pl
set_option maxRecDepth 4000
theorem Same_eq (a b : List Int) (hl : a.length < 1000000000) : ref07_Same a b = some (decide (a = b)) := by
  unfold ref07_Same
  by_cases he : a.length = b.length
  · rw [show (!decide ((a.length : Int) = (b.length : Int))) = false by simp [he], if_neg (by decide)]
    have hb : ∀ k, k < a.length → ref07_Same_b1 a b (k : Int) = if a.getD k 0 = b.getD k 0 then some (.inl ((k + 1 : Nat) : Int)) else some (.inr false) := fun k hk => by
      unfold ref07_Same_b1
      rw [dlt hk, if_pos rfl, ix_getD 0 hk, bind_some', ix_getD 0 (by omega), bind_some', ad_one (by omega)]
      by_cases h : a.getD k 0 = b.getD k 0
      · rw [if_pos h, decide_eq_true h]; rfl
      · rw [if_neg h, decide_eq_false h]; rfl
    have := loopO_all (body := fun s => ref07_Same_b1 a b s) (fun k => (k : Int)) a.length (fun k => a.getD k 0 = b.getD k 0) true false (fun k hk ho => by
      show ref07_Same_b1 _ _ _ = _
      rw [hb k hk, if_pos ho]) (fun k hk ho => by
      show ref07_Same_b1 _ _ _ = _
      rw [hb k hk, if_neg ho]) (by
      show ref07_Same_b1 _ _ _ = _
      unfold ref07_Same_b1
      rw [dnlt (Nat.lt_irrefl _), if_neg (by decide)]; rfl)
    refine (show ref07_Same_l1 a b 0 = _ from this).trans ?_
    congr 1
    rw [Bool.eq_iff_iff, decide_eq_true_iff]
    constructor
    · intro h
      split at h
      · rename_i h1; exact ext_getD 0 he h1
      · cases h
    · intro h
      subst h
      rw [if_pos fun _ _ => rfl]
  · rw [show (!decide ((a.length : Int) = (b.length : Int))) = true by simp; omega, if_pos rfl, decide_eq_false fun e => he (by rw [e])]
theorem known26 : law26_known = some true := by
  unfold law26_known
  have f1 : Fits ([], []) := by unfold Fits pointsN ringsN refsNN; simp
  have f2 : Fits ([([(0, 0), (3, 0)], 0, 1)], []) := by unfold Fits pointsN ringsN refsNN; simp
  rw [Bytes_eq _ f1, if_pos (by decide), bind_some', Bytes_eq _ f2, if_pos (by decide), bind_some']
  have e1 : bytesP ([], []) = [0, 0] := by decide
  have e2 : bytesP ([([(0, 0), (3, 0)], 0, 1)], []) = [1, 0, 1, 2, 0, 0, 6, 0, 0] := by decide
  rw [e1, e2]
  simp [Same_eq]
def numG (i n : Nat) : List Int → Nat × Nat × Int
  | [] => if i = 10 then (0, 0, 5) else (0, 0, 4)
  | x :: l => if i = 10 then (0, 0, 5) else if 128 ≤ x then numG (i + 1) (n + (x.toNat - 128) * 128 ^ i) l
    else if i = 9 ∧ 1 < x then (0, 0, 5) else if 0 < i ∧ x = 0 then (0, 0, 3) else (n + x.toNat * 128 ^ i, i + 1, 0)
def num (l : List Int) : Nat × Nat × Int := numG 0 0 l
def numI (r : Nat × Nat × Int) : Int × Int × Int := ((r.1 : Int), (r.2.1 : Int), r.2.2)
theorem or_sum {n m k : Nat} (h : n < 2 ^ k) : n ||| m * 2 ^ k = n + m * 2 ^ k := by
  have := Nat.two_pow_add_eq_or_of_lt h m
  rw [Nat.or_comm, Nat.mul_comm, ← this]; omega
theorem an127 : ∀ m : Fin 256, anK .u8 (m.val : Int) 127 = ((m.val % 128 : Nat) : Int) := by decide +kernel
theorem u64_nat {n : Nat} (h : n < 18446744073709551616) : IntKind.u64.wrap (n : Int) = (n : Int) := IntWalk.u64_in _ (by omega)
theorem or64 {a b : Nat} (ha : a < 18446744073709551616) (hb : b < 18446744073709551616) : orK .u64 (a : Int) (b : Int) = ((a ||| b : Nat) : Int) := by
  unfold orK
  rw [show IntKind.u64.bits = 64 from rfl, BitVec.toNat_or, BitVec.ofInt_natCast, BitVec.ofInt_natCast, BitVec.toNat_ofNat, BitVec.toNat_ofNat, Nat.mod_eq_of_lt (by omega), Nat.mod_eq_of_lt (by omega)]
  exact u64_nat (Nat.or_lt_two_pow (n := 64) (by omega) (by omega))
theorem p128 (i : Nat) : 128 ^ i = 2 ^ (7 * i) := by rw [Nat.pow_mul]
theorem u8_nat {x : Int} (h : U8 x) : ∃ m : Nat, m < 256 ∧ x = (m : Int) := ⟨x.toNat, by unfold U8 at h; omega, by unfold U8 at h; omega⟩
theorem sl_eq {m i : Nat} (hm : m < 256) (hi : i ≤ 9) : slK .u64 (IntKind.u64.wrap (anK .u8 (m : Int) 127)) ((7 * i : Nat) : Int) = some (IntKind.u64.wrap ((m % 128 * 128 ^ i : Nat) : Int)) := by
  have := an127 ⟨m, hm⟩
  simp only at this
  rw [this, u64_nat (by omega)]
  unfold slK
  rw [if_pos ⟨by omega, by rw [show IntKind.u64.bits = 64 from rfl]; omega⟩, Int.toNat_natCast, p128]
  congr 2
theorem read_step (b : List Int) (hb : ∀ x ∈ b, U8 x) (i n : Nat) (hi : i ≤ 9) (hn : n < 128 ^ i) (m : Nat) (hm : m < 256) (hl : i < b.length) (hx : b[i]? = some (m : Int)) :
    varint_Read_b1_0 b (n : Int) (i : Int) = if 128 ≤ m then some (.inl (orK .u64 (n : Int) (IntKind.u64.wrap ((m % 128 * 128 ^ i : Nat) : Int)), ((i + 1 : Nat) : Int))) else if i = 9 ∧ 1 < m then some (.inr (0, 0, 5)) else if 0 < i ∧ m = 0 then some (.inr (0, 0, 3)) else some (.inr (orK .u64 (n : Int) (IntKind.u64.wrap ((m % 128 * 128 ^ i : Nat) : Int)), ((i + 1 : Nat) : Int), 0)) := by
  unfold varint_Read_b1_0
  have e1 : ix b (i : Int) = some (m : Int) := by rw [ix_nat, hx]
  have e2 : ml 7 (i : Int) = ((7 * i : Nat) : Int) := by rw [ml_in (by omega)]; omega
  have e3 : ad (i : Int) 1 = ((i + 1 : Nat) : Int) := by rw [ad_in (by omega)]; omega
  have e4 : sb ((i + 1 : Nat) : Int) 1 = (i : Int) := by rw [sb_in (by omega)]; omega
  rw [decide_eq_false (show ¬ (i : Int) = 10 by omega), if_neg (by decide), decide_eq_false (show ¬ (i : Int) = (b.length : Int) by omega), if_neg (by decide), e1, bind_some', e2, sl_eq hm hi, bind_some', e3, e4, e1]
  simp only [bind_some']
  by_cases h1 : 128 ≤ m
  · rw [if_pos h1, decide_eq_true (by omega), if_pos rfl]
  · rw [if_neg h1, decide_eq_false (show ¬ (128 : Int) ≤ (m : Int) by omega), if_neg (by decide)]
    have c1 : ∀ (A B : Prop) [Decidable A] [Decidable B] (v : Int), (gd (decide A) (some v) 0).bind (fun x => some (decide A && decide (B))) = some (decide A && decide B) := fun A B _ _ v => by
      by_cases hA : A
      · rw [decide_eq_true hA]; rfl
      · rw [decide_eq_false hA]; rfl
    by_cases h2 : i = 9 ∧ 1 < m
    · rw [if_pos h2, decide_eq_true (by omega), gd_true, bind_some', decide_eq_true (by omega)]; rfl
    · rw [if_neg h2]
      have hf : ((gd (decide (((i + 1 : Nat) : Int) = 10)) (some (m : Int)) 0).bind fun x => some (decide (((i + 1 : Nat) : Int) = 10) && decide (1 < x))) = some false := by
        by_cases h9 : i = 9
        · rw [decide_eq_true (by omega), gd_true, bind_some', decide_eq_false (by omega)]; rfl
        · rw [decide_eq_false (by omega), gd_false, bind_some']; rfl
      obtain ⟨y, hy, hy2⟩ := obind hf
      rw [hy, bind_some', show (decide (((i + 1 : Nat) : Int) = 10) && decide (1 < y)) = false by injection hy2, if_neg (by decide)]
      by_cases h3 : 0 < i ∧ m = 0
      · rw [if_pos h3, decide_eq_true (by omega), gd_true, bind_some', decide_eq_true (by omega)]; rfl
      · rw [if_neg h3]
        have hf2 : ((gd (decide (1 < ((i + 1 : Nat) : Int))) (some (m : Int)) 0).bind fun x => some (decide (1 < ((i + 1 : Nat) : Int)) && decide (x = 0))) = some false := by
          by_cases h9 : 0 < i
          · rw [decide_eq_true (by omega), gd_true, bind_some', decide_eq_false (by omega)]; rfl
          · rw [decide_eq_false (by omega), gd_false, bind_some']; rfl
        obtain ⟨z, hz, hz2⟩ := obind hf2
        rw [hz, bind_some', show (decide (1 < ((i + 1 : Nat) : Int)) && decide (z = 0)) = false by injection hz2, if_neg (by decide)]; rfl
theorem getD_u8 {b : List Int} (hb : ∀ x ∈ b, U8 x) {i : Nat} (hi : i < b.length) : ∃ m : Nat, m < 256 ∧ b[i]? = some (m : Int) ∧ b.drop i = (m : Int) :: b.drop (i + 1) := by
  obtain ⟨m, hm, e⟩ := u8_nat (hb _ (List.getElem_mem hi))
  exact ⟨m, hm, by rw [List.getElem?_eq_getElem hi, e], by rw [List.drop_eq_getElem_cons hi, e]⟩
theorem read_go (b : List Int) (hb : ∀ x ∈ b, U8 x) : ∀ (k i n : Nat), i + k = 9 → n < 128 ^ i → i ≤ b.length → varint_Read_l1 b ((n : Int), (i : Int)) = some (numI (numG i n (b.drop i))) := by
  intro k
  induction k with
  | zero =>
    intro i n hi hn hl
    have : i = 9 := by omega
    subst this
    by_cases h1 : 9 < b.length
    · obtain ⟨m, hm, hx, hd⟩ := getD_u8 hb h1
      have hs := read_step b hb 9 n (by omega) hn m hm h1 hx
      rw [hd, numG, if_neg (by omega)]
      by_cases h2 : 128 ≤ m
      · rw [if_pos h2] at hs
        rw [if_pos (by omega)]
        unfold varint_Read_l1
        rw [loopO_inl hs]
        refine (loopO_inr (r := (0, 0, 5)) ?_).trans ?_
        · dsimp only
          unfold varint_Read_b1_0
          rw [decide_eq_true (by decide), if_pos rfl]; rfl
        · cases b.drop (9 + 1) <;> rfl
      · rw [if_neg h2] at hs
        rw [if_neg (by omega)]
        by_cases h3 : 1 < m
        · rw [if_pos ⟨rfl, h3⟩] at hs
          rw [if_pos ⟨rfl, by omega⟩]
          exact loopO_inr hs
        · rw [if_neg (by omega)] at hs
          rw [if_neg (by omega)]
          by_cases h4 : m = 0
          · rw [if_pos ⟨by omega, h4⟩] at hs
            rw [if_pos ⟨by omega, by omega⟩]
            exact loopO_inr hs
          · rw [if_neg (by omega)] at hs
            rw [if_neg (by omega)]
            refine (loopO_inr hs).trans ?_
            have hm1 : m = 1 := by omega
            subst hm1
            have hn' : n < 9223372036854775808 := hn
            rw [show (1 % 128 * 128 ^ 9 : Nat) = 1 * 2 ^ 63 by decide, u64_nat (by omega), or64 (by omega) (by omega), or_sum (by omega)]
            unfold numI
            simp
    · rw [List.drop_eq_nil_of_le (by omega), numG, if_neg (by omega)]
      refine loopO_inr ?_
      dsimp only
      unfold varint_Read_b1_0
      rw [decide_eq_false (by decide), if_neg (by decide), decide_eq_true (by omega), if_pos rfl]; rfl
  | succ k ih =>
    intro i n hi hn hl
    by_cases h1 : i < b.length
    · obtain ⟨m, hm, hx, hd⟩ := getD_u8 hb h1
      have hs := read_step b hb i n (by omega) hn m hm h1 hx
      rw [hd, numG, if_neg (by omega)]
      have hp := Nat.pow_le_pow_right (show 0 < 128 by omega) (show i ≤ 8 by omega)
      have hv : m % 128 * 128 ^ i ≤ 127 * 128 ^ i := Nat.mul_le_mul_right _ (by omega)
      have he : orK .u64 (n : Int) (IntKind.u64.wrap ((m % 128 * 128 ^ i : Nat) : Int)) = ((n + m % 128 * 128 ^ i : Nat) : Int) := by
        rw [u64_nat (by omega), or64 (by omega) (by omega), p128, or_sum (by rw [← p128]; exact hn)]
      rw [he] at hs
      by_cases h2 : 128 ≤ m
      · rw [if_pos h2] at hs
        rw [if_pos (by omega), Int.toNat_natCast, show m - 128 = m % 128 by omega]
        unfold varint_Read_l1
        rw [loopO_inl hs]
        exact ih (i + 1) _ (by omega) (by rw [Nat.pow_succ]; omega) (by omega)
      · rw [if_neg h2] at hs
        rw [if_neg (by omega), if_neg (by omega)]
        rw [if_neg (by omega)] at hs
        by_cases h4 : 0 < i ∧ m = 0
        · rw [if_pos h4] at hs
          rw [if_pos ⟨h4.1, by omega⟩]
          exact loopO_inr hs
        · rw [if_neg h4] at hs
          rw [if_neg (by omega), Int.toNat_natCast]
          refine (loopO_inr hs).trans ?_
          rw [show m % 128 = m by omega]; rfl
    · rw [List.drop_eq_nil_of_le (by omega), numG, if_neg (by omega)]
      refine loopO_inr ?_
      dsimp only
      unfold varint_Read_b1_0
      rw [decide_eq_false (show ¬ (i : Int) = 10 by omega), if_neg (by decide), decide_eq_true (by omega), if_pos rfl]; rfl
theorem vRead_eq {b : List Int} (hb : ∀ x ∈ b, U8 x) : varint_Read b = some (numI (num b)) := by
  unfold varint_Read num
  cases b with
  | nil => rfl
  | cons x l =>
    obtain ⟨m, hm, rfl⟩ := u8_nat (hb x (by simp))
    have := read_go ((m : Int) :: l) hb 8 1 (m % 128) (by omega) (by omega) (by simp)
    have e2 : slK .u64 (IntKind.u64.wrap (anK .u8 (m : Int) 127)) 0 = some ((m % 128 : Nat) : Int) := by
      have := sl_eq (i := 0) hm (by omega)
      rw [u64_nat (by omega), Nat.pow_zero, Nat.mul_one] at this
      exact this
    have e3 : orK .u64 0 ((m % 128 : Nat) : Int) = ((m % 128 : Nat) : Int) := by
      have := or64 (a := 0) (b := m % 128) (by omega) (by omega)
      rw [Nat.zero_or] at this
      exact this
    rw [decide_eq_false (by simp only [List.length_cons]; omega), if_neg (by decide), show ix ((m : Int) :: l) 0 = some (m : Int) from rfl, bind_some', e2, bind_some', bind_some', e3]
    by_cases h2 : 128 ≤ m
    · rw [decide_eq_true (by omega), if_pos rfl, numG, if_neg (by omega), if_pos (by omega)]
      refine this.trans ?_
      rw [List.drop_one, List.tail_cons, Int.toNat_natCast, show m - 128 = m % 128 by omega, Nat.pow_zero, Nat.mul_one, Nat.zero_add, Nat.zero_add]
    · rw [decide_eq_false (by omega), if_neg (by decide)]
      simp only [Bool.and_self, Bool.false_eq_true, if_false]
      rw [numG, if_neg (by omega), if_neg (by omega), if_neg (by omega), if_neg (by omega), Int.toNat_natCast, show m % 128 = m by omega, Nat.pow_zero, Nat.mul_one, Nat.zero_add]; rfl
def lead : List Int → Nat
  | [] => 0
  | x :: l => if 128 ≤ x then lead l + 1 else 0
theorem lead_le : ∀ l : List Int, lead l ≤ l.length
  | [] => Nat.le_refl _
  | x :: l => by
    have := lead_le l
    unfold lead
    split
    · simp only [List.length_cons]; omega
    · exact Nat.zero_le _
def valB : List Int → Nat
  | [] => 0
  | x :: l => (x.toNat % 128) + 128 * valB l
theorem numG_spec : ∀ (l : List Int) (i n : Nat), (∀ x ∈ l, U8 x) → i ≤ 10 → numG i n l = if 10 ≤ i + lead l then (0, 0, 5) else if lead l = l.length then (0, 0, 4) else if i + lead l = 9 ∧ 1 < l.getD (lead l) 0 then (0, 0, 5) else if 0 < i + lead l ∧ l.getD (lead l) 0 = 0 then (0, 0, 3) else (n + 128 ^ i * valB (l.take (lead l + 1)), i + lead l + 1, 0)
  | [], i, n, _, hi => by
    rw [numG]
    by_cases h : i = 10
    · subst h; rfl
    · rw [if_neg h, if_neg (by simp only [lead]; omega)]; rfl
  | x :: l, i, n, hb, hi => by
    obtain ⟨m, hm, rfl⟩ := u8_nat (hb x (by simp))
    rw [numG]
    by_cases h : i = 10
    · subst h
      rw [if_pos rfl, if_pos (by omega)]
    rw [if_neg h]
    by_cases h1 : (128 : Int) ≤ (m : Int)
    · have hle : lead ((m : Int) :: l) = lead l + 1 := by rw [lead, if_pos h1]
      have hcc : (lead l + 1 = l.length + 1) = (lead l = l.length) := by rw [eq_iff_iff]; omega
      rw [if_pos h1, numG_spec l (i + 1) _ (fun y hy => hb y (by simp [hy])) (by omega), hle, show ((m : Int) :: l).getD (lead l + 1) 0 = l.getD (lead l) 0 by simp, show i + (lead l + 1) = i + 1 + lead l by omega, List.length_cons]
      simp only [hcc]
      by_cases h2 : 10 ≤ i + 1 + lead l
      · rw [if_pos h2, if_pos h2]
      rw [if_neg h2, if_neg h2]
      by_cases h3 : lead l = l.length
      · rw [if_pos h3, if_pos h3]
      rw [if_neg h3, if_neg h3]
      by_cases h4 : i + 1 + lead l = 9 ∧ 1 < l.getD (lead l) 0
      · rw [if_pos h4, if_pos h4]
      rw [if_neg h4, if_neg h4]
      by_cases h5 : 0 < i + 1 + lead l ∧ l.getD (lead l) 0 = 0
      · rw [if_pos h5, if_pos h5]
      rw [if_neg h5, if_neg h5, List.take_succ_cons, valB, Int.toNat_natCast, Nat.pow_succ]
      congr 1
      rw [show m - 128 = m % 128 by omega, Nat.mul_add, Nat.mul_comm (m % 128), Nat.mul_assoc]
      omega
    · have hle : lead ((m : Int) :: l) = 0 := by rw [lead, if_neg h1]
      rw [if_neg h1, hle, if_neg (show ¬ 10 ≤ i + 0 by omega), if_neg (show ¬ 0 = ((m : Int) :: l).length by simp)]
      simp only [Nat.add_zero, List.getD_cons_zero]
      by_cases h4 : i = 9 ∧ (1 : Int) < (m : Int)
      · rw [if_pos h4, if_pos h4]
      rw [if_neg h4, if_neg h4]
      by_cases h5 : 0 < i ∧ (m : Int) = 0
      · rw [if_pos h5, if_pos h5]
      rw [if_neg h5, if_neg h5, Nat.zero_add, List.take_succ_cons, List.take_zero, valB, valB, Int.toNat_natCast, show m % 128 = m by omega, Nat.mul_comm]
      congr 1
theorem valB_lt : ∀ l : List Int, valB l < 128 ^ l.length
  | [] => by decide
  | x :: l => by
    have := valB_lt l
    rw [valB, List.length_cons, Nat.pow_succ]
    omega
theorem valB_snoc : ∀ (l : List Int) (x : Int), valB (l ++ [x]) = valB l + 128 ^ l.length * (x.toNat % 128)
  | [], x => by simp [valB]
  | y :: l, x => by
    rw [List.cons_append, valB, valB_snoc l x, valB, List.length_cons, Nat.pow_succ, Nat.mul_add, ← Nat.mul_assoc, Nat.mul_comm 128 (128 ^ l.length)]
    omega
theorem lead_at : ∀ (l : List Int) (j : Nat), j < lead l → 128 ≤ l.getD j 0
  | [], j, h => by simp [lead] at h
  | x :: l, j, h => by
    unfold lead at h
    by_cases h1 : 128 ≤ x
    · rw [if_pos h1] at h
      cases j with
      | zero => exact h1
      | succ j =>
        have := lead_at l j (by omega)
        simpa using this
    · rw [if_neg h1] at h; omega
theorem lead_end : ∀ (l : List Int), lead l < l.length → l.getD (lead l) 0 < 128
  | [], h => by simp at h
  | x :: l, h => by
    unfold lead at h ⊢
    by_cases h1 : 128 ≤ x
    · rw [if_pos h1] at h ⊢
      have := lead_end l (by simpa using h)
      simpa using this
    · rw [if_neg h1] at h ⊢
      show x < 128
      omega
theorem rRead_eq {b : List Int} (hb : ∀ x ∈ b, U8 x) (hl : b.length ≤ 1000000) : ref07_Read b = some (numI (num b)) := by
  unfold ref07_Read ref07_Read_l1
  have hle := lead_le b
  have hgu : ∀ j, j < b.length → 0 ≤ b.getD j 0 ∧ b.getD j 0 ≤ 255 := fun j hj => hb _ (getD_mem hj)
  rw [show (0 : Int) = ((0 : Nat) : Int) from rfl, loopO_up (body := fun s => ref07_Read_b1 b s) (fun k => (k : Int)) (lead b) (fun k hk => by
    unfold ref07_Read_b1
    rw [dlt (show k < b.length by omega), gd_true, ix_getD 0 (by omega), bind_some', decide_eq_true (lead_at b k hk), bind_some']
    rw [if_pos (by rfl), ad_one (by omega)]) 0 (Nat.zero_le _)]
  have hstop : ref07_Read_b1 b (lead b : Int) = some (.inr (numI (num b))) := by
    unfold ref07_Read_b1
    have hx : ((gd (decide ((lead b : Int) < (b.length : Int))) (ix b (lead b : Int)) 0).bind fun x => some (decide ((lead b : Int) < (b.length : Int)) && decide (128 ≤ x))) = some false := by
      by_cases h : lead b < b.length
      · have := lead_end b h
        rw [dlt h, gd_true, ix_getD 0 h, bind_some', decide_eq_false (by omega)]; rfl
      · rw [dnlt h, gd_false, bind_some']; rfl
    obtain ⟨y, hy, hy2⟩ := obind hx
    rw [hy, bind_some', hy2, bind_some', if_neg (by decide)]
    unfold num
    rw [numG_spec b 0 0 hb (by omega)]
    simp only [Nat.zero_add]
    by_cases h2 : 10 ≤ lead b
    · rw [if_pos h2, decide_eq_true (by omega), if_pos rfl]; rfl
    rw [if_neg h2, decide_eq_false (by omega), if_neg (by decide)]
    by_cases h3 : lead b = b.length
    · rw [if_pos h3, decide_eq_true (by omega), if_pos rfl]; rfl
    rw [if_neg h3, decide_eq_false (by omega), if_neg (by decide)]
    have hlt : lead b < b.length := by omega
    by_cases h4 : lead b = 9 ∧ 1 < b.getD (lead b) 0
    · have e9 : ix b 9 = some (b.getD 9 0) := ix_getD (i := 9) 0 (by omega)
      rw [if_pos h4, decide_eq_true (by omega), gd_true, e9, bind_some', decide_eq_true (by rw [← h4.1]; exact h4.2)]; rfl
    rw [if_neg h4]
    have hf : ((gd (decide ((lead b : Int) = 9)) (ix b 9) 0).bind fun x => some (decide ((lead b : Int) = 9) && decide (1 < x))) = some false := by
      by_cases h9 : lead b = 9
      · have e9 : ix b 9 = some (b.getD 9 0) := ix_getD (i := 9) 0 (by omega)
        rw [decide_eq_true (by omega), gd_true, e9, bind_some', decide_eq_false (by rw [h9] at h4; omega)]; rfl
      · rw [decide_eq_false (by omega), gd_false, bind_some']; rfl
    obtain ⟨z, hz, hz2⟩ := obind hf
    rw [hz, bind_some', hz2, bind_some', if_neg (by decide)]
    by_cases h5 : 0 < lead b ∧ b.getD (lead b) 0 = 0
    · rw [if_pos h5, decide_eq_true (by omega), gd_true, ix_getD 0 hlt, bind_some', decide_eq_true h5.2]; rfl
    rw [if_neg h5]
    have hf2 : ((gd (decide (0 < (lead b : Int))) (ix b (lead b : Int)) 0).bind fun x => some (decide (0 < (lead b : Int)) && decide (x = 0))) = some false := by
      by_cases h9 : 0 < lead b
      · rw [decide_eq_true (by omega), gd_true, ix_getD 0 hlt, bind_some', decide_eq_false (fun e => h5 ⟨h9, e⟩)]; rfl
      · rw [decide_eq_false (by omega), gd_false, bind_some']; rfl
    obtain ⟨v, hv, hv2⟩ := obind hf2
    rw [hv, bind_some', hv2, bind_some', if_neg (by decide)]
    -- the value
    have hbd : ∀ j, j ≤ lead b + 1 → valB ((b.take (lead b + 1)).drop j) < 18446744073709551616 := by
      have h0 : valB (b.take (lead b + 1)) < 18446744073709551616 := by
        rw [snoc_take 0 hlt, valB_snoc]
        have h1 := valB_lt (b.take (lead b))
        have h6 : (b.take (lead b)).length = lead b := by rw [List.length_take]; omega
        rw [h6] at h1 ⊢
        by_cases h9 : lead b = 9
        · rw [h9] at h1 ⊢
          have : b.getD 9 0 ≤ 1 := by rw [h9] at h4; omega
          have h7 : (b.getD 9 0).toNat % 128 ≤ 1 := by have := hgu 9 (by omega); omega
          have : 128 ^ 9 * ((b.getD 9 0).toNat % 128) ≤ 128 ^ 9 * 1 := Nat.mul_le_mul_left _ h7
          omega
        · have h8 := Nat.pow_le_pow_right (show 0 < 128 by omega) (show lead b ≤ 8 by omega)
          have : 128 ^ lead b * ((b.getD (lead b) 0).toNat % 128) ≤ 128 ^ lead b * 127 := Nat.mul_le_mul_left _ (by omega)
          omega
      have key : ∀ (m : List Int) (j : Nat), valB (m.drop j) ≤ valB m := by
        intro m
        induction m with
        | nil => intro j; simp
        | cons x m ih =>
          intro j
          cases j with
          | zero => exact Nat.le_refl _
          | succ j =>
            have := ih j
            rw [List.drop_succ_cons, valB]; omega
      intro j _
      exact Nat.lt_of_le_of_lt (key _ _) h0
    have hgo : ∀ j, j ≤ lead b + 1 → ref07_Read_l2 b (lead b : Int) ((valB ((b.take (lead b + 1)).drop j) : Int), (j : Int) - 1) = some ((valB (b.take (lead b + 1)) : Int), ((lead b + 1 : Nat) : Int), 0) := by
      intro j
      unfold ref07_Read_l2
      induction j with
      | zero =>
        intro _
        refine loopO_inr ?_
        dsimp only
        unfold ref07_Read_b2
        rw [decide_eq_false (by omega), if_neg (by decide), ad_in (by omega), List.drop_zero]
        congr 3
      | succ j ih =>
        intro hj
        have hjl : j < (b.take (lead b + 1)).length := by rw [List.length_take]; omega
        have hd : (b.take (lead b + 1)).drop j = b.getD j 0 :: (b.take (lead b + 1)).drop (j + 1) := by rw [drop_cons 0 hjl, getD_take (by omega)]
        have hbj := hbd j (by omega)
        rw [hd, valB] at hbj
        have e : ref07_Read_b2 b (lead b : Int) (valB ((b.take (lead b + 1)).drop (j + 1)) : Int) (((j + 1 : Nat) : Int) - 1) = some (.inl ((valB ((b.take (lead b + 1)).drop j) : Int), (j : Int) - 1)) := by
          unfold ref07_Read_b2
          have hge := hgu j (by omega)
          have hm : rmK (b.getD j 0) 128 = some (((b.getD j 0).toNat % 128 : Nat) : Int) := by
            unfold rmK
            rw [if_neg (by decide), Int.tmod_eq_emod_of_nonneg (by omega)]
            congr 1; omega
          rw [show (((j + 1 : Nat) : Int) - 1) = (j : Int) by omega, decide_eq_true (by omega), if_pos rfl, ix_getD 0 (by omega), bind_some', hm, bind_some', bind_some', hd, valB, u64_nat (by omega)]
          unfold adK mlK
          rw [show (128 : Int) * (valB ((b.take (lead b + 1)).drop (j + 1)) : Int) = ((128 * valB ((b.take (lead b + 1)).drop (j + 1)) : Nat) : Int) by omega, u64_nat (by omega), sb_in (by omega)]
          rw [show ((128 * valB ((b.take (lead b + 1)).drop (j + 1)) : Nat) : Int) + (((b.getD j 0).toNat % 128 : Nat) : Int) = (((b.getD j 0).toNat % 128 + 128 * valB ((b.take (lead b + 1)).drop (j + 1)) : Nat) : Int) by omega, u64_nat hbj]
        exact (loopO_inl e).trans (ih (by omega))
    have := hgo (lead b + 1) (Nat.le_refl _)
    rw [List.drop_eq_nil_of_le (by rw [List.length_take]; omega)] at this
    rw [show ((lead b + 1 : Nat) : Int) - 1 = (lead b : Int) by omega] at this
    rw [show ((0 : Int), (lead b : Int)) = ((valB [] : Int), (lead b : Int)) from rfl, this]
    unfold numI
    simp
  exact loopO_inr hstop
end Go.Proofs.Ytaobbaohelpdgaa.Pl
