import Derived.Test.YtaobbaohelpdgaaP26c
namespace Go.Proofs.Ytaobbaohelpdgaa.Pl
set_option maxRecDepth 4000
theorem Same_eq (a b : List Int) (hl : a.length < 1000000000) : ref07_Same a b = some (decide (a = b)) := by
  unfold ref07_Same
  by_cases he : a.length = b.length
  · rw [show (!decide ((a.length : Int) = (b.length : Int))) = false by simp [he], if_neg (by decide)]
    have hb : ∀ k, k < a.length → ref07_Same_b1 a b (k : Int) = if a.getD k 0 = b.getD k 0 then some (.inl ((k + 1 : Nat) : Int)) else some (.inr false) := fun k hk => by
      unfold ref07_Same_b1
      rw [dlt hk, if_pos rfl, ix_getD 0 hk, bind_some', ix_getD 0 (by omega), bind_some', ad_one (by omega)]
      by_cases h : a.getD k 0 = b.getD k 0
      · rw [if_pos h, decide_eq_true h]; rfl
      · rw [if_neg h, decide_eq_false h]; rfl
    have := loopO_all (body := fun s => ref07_Same_b1 a b s) (fun k => (k : Int)) a.length (fun k => a.getD k 0 = b.getD k 0) true false (fun k hk ho => by
      show ref07_Same_b1 _ _ _ = _
      rw [hb k hk, if_pos ho]) (fun k hk ho => by
      show ref07_Same_b1 _ _ _ = _
      rw [hb k hk, if_neg ho]) (by
      show ref07_Same_b1 _ _ _ = _
      unfold ref07_Same_b1
      rw [dnlt (Nat.lt_irrefl _), if_neg (by decide)]; rfl)
    refine (show ref07_Same_l1 a b 0 = _ from this).trans ?_
    congr 1
    rw [Bool.eq_iff_iff, decide_eq_true_iff]
    constructor
    · intro h
      split at h
      · rename_i h1; exact ext_getD 0 he h1
      · cases h
    · intro h
      subst h
      rw [if_pos fun _ _ => rfl]
  · rw [show (!decide ((a.length : Int) = (b.length : Int))) = true by simp; omega, if_pos rfl, decide_eq_false fun e => he (by rw [e])]
theorem known26 : law26_known = some true := by
  unfold law26_known
  have f1 : Fits ([], []) := by unfold Fits pointsN ringsN refsNN; simp
  have f2 : Fits ([([(0, 0), (3, 0)], 0, 1)], []) := by unfold Fits pointsN ringsN refsNN; simp
  rw [Bytes_eq _ f1, if_pos (by decide), bind_some', Bytes_eq _ f2, if_pos (by decide), bind_some']
  have e1 : bytesP ([], []) = [0, 0] := by decide
  have e2 : bytesP ([([(0, 0), (3, 0)], 0, 1)], []) = [1, 0, 1, 2, 0, 0, 6, 0, 0] := by decide
  rw [e1, e2]
  simp [Same_eq]
def numG (i n : Nat) : List Int → Nat × Nat × Int
  | [] => if i = 10 then (0, 0, 5) else (0, 0, 4)
  | x :: l => if i = 10 then (0, 0, 5) else if 128 ≤ x then numG (i + 1) (n + (x.toNat - 128) * 128 ^ i) l
    else if i = 9 ∧ 1 < x then (0, 0, 5) else if 0 < i ∧ x = 0 then (0, 0, 3) else (n + x.toNat * 128 ^ i, i + 1, 0)
def num (l : List Int) : Nat × Nat × Int := numG 0 0 l
def numI (r : Nat × Nat × Int) : Int × Int × Int := ((r.1 : Int), (r.2.1 : Int), r.2.2)
theorem or_sum {n m k : Nat} (h : n < 2 ^ k) : n ||| m * 2 ^ k = n + m * 2 ^ k := by
  have := Nat.two_pow_add_eq_or_of_lt h m
  rw [Nat.or_comm, Nat.mul_comm, ← this]; omega
theorem an127 : ∀ m : Fin 256, anK .u8 (m.val : Int) 127 = ((m.val % 128 : Nat) : Int) := by decide +kernel
theorem u64_nat {n : Nat} (h : n < 18446744073709551616) : IntKind.u64.wrap (n : Int) = (n : Int) := IntWalk.u64_in _ (by omega)
theorem or64 {a b : Nat} (ha : a < 18446744073709551616) (hb : b < 18446744073709551616) : orK .u64 (a : Int) (b : Int) = ((a ||| b : Nat) : Int) := by
  unfold orK
  rw [show IntKind.u64.bits = 64 from rfl, BitVec.toNat_or, BitVec.ofInt_natCast, BitVec.ofInt_natCast, BitVec.toNat_ofNat, BitVec.toNat_ofNat, Nat.mod_eq_of_lt (by omega), Nat.mod_eq_of_lt (by omega)]
  exact u64_nat (Nat.or_lt_two_pow (n := 64) (by omega) (by omega))
theorem p128 (i : Nat) : 128 ^ i = 2 ^ (7 * i) := by rw [Nat.pow_mul]
theorem u8_nat {x : Int} (h : U8 x) : ∃ m : Nat, m < 256 ∧ x = (m : Int) := ⟨x.toNat, by unfold U8 at h; omega, by unfold U8 at h; omega⟩
theorem sl_eq {m i : Nat} (hm : m < 256) (hi : i ≤ 9) : slK .u64 (IntKind.u64.wrap (anK .u8 (m : Int) 127)) ((7 * i : Nat) : Int) = some (IntKind.u64.wrap ((m % 128 * 128 ^ i : Nat) : Int)) := by
  have := an127 ⟨m, hm⟩
  simp only at this
  rw [this, u64_nat (by omega)]
  unfold slK
  rw [if_pos ⟨by omega, by rw [show IntKind.u64.bits = 64 from rfl]; omega⟩, Int.toNat_natCast, p128]
  congr 2
theorem read_step (b : List Int) (hb : ∀ x ∈ b, U8 x) (i n : Nat) (hi : i ≤ 9) (hn : n < 128 ^ i) (m : Nat) (hm : m < 256) (hl : i < b.length) (hx : b[i]? = some (m : Int)) :
    varint_Read_b1_0 b (n : Int) (i : Int) = if 128 ≤ m then some (.inl (orK .u64 (n : Int) (IntKind.u64.wrap ((m % 128 * 128 ^ i : Nat) : Int)), ((i + 1 : Nat) : Int))) else if i = 9 ∧ 1 < m then some (.inr (0, 0, 5)) else if 0 < i ∧ m = 0 then some (.inr (0, 0, 3)) else some (.inr (orK .u64 (n : Int) (IntKind.u64.wrap ((m % 128 * 128 ^ i : Nat) : Int)), ((i + 1 : Nat) : Int), 0)) := by
  unfold varint_Read_b1_0
  have e1 : ix b (i : Int) = some (m : Int) := by rw [ix_nat, hx]
  have e2 : ml 7 (i : Int) = ((7 * i : Nat) : Int) := by rw [ml_in (by omega)]; omega
  have e3 : ad (i : Int) 1 = ((i + 1 : Nat) : Int) := by rw [ad_in (by omega)]; omega
  have e4 : sb ((i + 1 : Nat) : Int) 1 = (i : Int) := by rw [sb_in (by omega)]; omega
  rw [decide_eq_false (show ¬ (i : Int) = 10 by omega), if_neg (by decide), decide_eq_false (show ¬ (i : Int) = (b.length : Int) by omega), if_neg (by decide), e1, bind_some', e2, sl_eq hm hi, bind_some', e3, e4, e1]
  simp only [bind_some']
  by_cases h1 : 128 ≤ m
  · rw [if_pos h1, decide_eq_true (by omega), if_pos rfl]
  · rw [if_neg h1, decide_eq_false (show ¬ (128 : Int) ≤ (m : Int) by omega), if_neg (by decide)]
    have c1 : ∀ (A B : Prop) [Decidable A] [Decidable B] (v : Int), (gd (decide A) (some v) 0).bind (fun x => some (decide A && decide (B))) = some (decide A && decide B) := fun A B _ _ v => by
      by_cases hA : A
      · rw [decide_eq_true hA]; rfl
      · rw [decide_eq_false hA]; rfl
    by_cases h2 : i = 9 ∧ 1 < m
    · rw [if_pos h2, decide_eq_true (by omega), gd_true, bind_some', decide_eq_true (by omega)]; rfl
    · rw [if_neg h2]
      have hf : ((gd (decide (((i + 1 : Nat) : Int) = 10)) (some (m : Int)) 0).bind fun x => some (decide (((i + 1 : Nat) : Int) = 10) && decide (1 < x))) = some false := by
        by_cases h9 : i = 9
        · rw [decide_eq_true (by omega), gd_true, bind_some', decide_eq_false (by omega)]; rfl
        · rw [decide_eq_false (by omega), gd_false, bind_some']; rfl
      obtain ⟨y, hy, hy2⟩ := obind hf
      rw [hy, bind_some', show (decide (((i + 1 : Nat) : Int) = 10) && decide (1 < y)) = false by injection hy2, if_neg (by decide)]
      by_cases h3 : 0 < i ∧ m = 0
      · rw [if_pos h3, decide_eq_true (by omega), gd_true, bind_some', decide_eq_true (by omega)]; rfl
      · rw [if_neg h3]
        have hf2 : ((gd (decide (1 < ((i + 1 : Nat) : Int))) (some (m : Int)) 0).bind fun x => some (decide (1 < ((i + 1 : Nat) : Int)) && decide (x = 0))) = some false := by
          by_cases h9 : 0 < i
          · rw [decide_eq_true (by omega), gd_true, bind_some', decide_eq_false (by omega)]; rfl
          · rw [decide_eq_false (by omega), gd_false, bind_some']; rfl
        obtain ⟨z, hz, hz2⟩ := obind hf2
        rw [hz, bind_some', show (decide (1 < ((i + 1 : Nat) : Int)) && decide (z = 0)) = false by injection hz2, if_neg (by decide)]; rfl
theorem getD_u8 {b : List Int} (hb : ∀ x ∈ b, U8 x) {i : Nat} (hi : i < b.length) : ∃ m : Nat, m < 256 ∧ b[i]? = some (m : Int) ∧ b.drop i = (m : Int) :: b.drop (i + 1) := by
  obtain ⟨m, hm, e⟩ := u8_nat (hb _ (List.getElem_mem hi))
  exact ⟨m, hm, by rw [List.getElem?_eq_getElem hi, e], by rw [List.drop_eq_getElem_cons hi, e]⟩
theorem read_go (b : List Int) (hb : ∀ x ∈ b, U8 x) : ∀ (k i n : Nat), i + k = 9 → n < 128 ^ i → i ≤ b.length → varint_Read_l1 b ((n : Int), (i : Int)) = some (numI (numG i n (b.drop i))) := by
  intro k
  induction k with
  | zero =>
    intro i n hi hn hl
    have : i = 9 := by omega
    subst this
    by_cases h1 : 9 < b.length
    · obtain ⟨m, hm, hx, hd⟩ := getD_u8 hb h1
      have hs := read_step b hb 9 n (by omega) hn m hm h1 hx
      rw [hd, numG, if_neg (by omega)]
      by_cases h2 : 128 ≤ m
      · rw [if_pos h2] at hs
        rw [if_pos (by omega)]
        unfold varint_Read_l1
        rw [loopO_inl hs]
        refine (loopO_inr (r := (0, 0, 5)) ?_).trans ?_
        · dsimp only
          unfold varint_Read_b1_0
          rw [decide_eq_true (by decide), if_pos rfl]; rfl
        · cases b.drop (9 + 1) <;> rfl
      · rw [if_neg h2] at hs
        rw [if_neg (by omega)]
        by_cases h3 : 1 < m
        · rw [if_pos ⟨rfl, h3⟩] at hs
          rw [if_pos ⟨rfl, by omega⟩]
          exact loopO_inr hs
        · rw [if_neg (by omega)] at hs
          rw [if_neg (by omega)]
          by_cases h4 : m = 0
          · rw [if_pos ⟨by omega, h4⟩] at hs
            rw [if_pos ⟨by omega, by omega⟩]
            exact loopO_inr hs
          · rw [if_neg (by omega)] at hs
            rw [if_neg (by omega)]
            refine (loopO_inr hs).trans ?_
            have hm1 : m = 1 := by omega
            subst hm1
            have hn' : n < 9223372036854775808 := hn
            rw [show (1 % 128 * 128 ^ 9 : Nat) = 1 * 2 ^ 63 by decide, u64_nat (by omega), or64 (by omega) (by omega), or_sum (by omega)]
            unfold numI
            simp
    · rw [List.drop_eq_nil_of_le (by omega), numG, if_neg (by omega)]
      refine loopO_inr ?_
      dsimp only
      unfold varint_Read_b1_0
      rw [decide_eq_false (by decide), if_neg (by decide), decide_eq_true (by omega), if_pos rfl]; rfl
  | succ k ih =>
    intro i n hi hn hl
    by_cases h1 : i < b.length
    · obtain ⟨m, hm, hx, hd⟩ := getD_u8 hb h1
      have hs := read_step b hb i n (by omega) hn m hm h1 hx
      rw [hd, numG, if_neg (by omega)]
      have hp := Nat.pow_le_pow_right (show 0 < 128 by omega) (show i ≤ 8 by omega)
      have hv : m % 128 * 128 ^ i ≤ 127 * 128 ^ i := Nat.mul_le_mul_right _ (by omega)
      have he : orK .u64 (n : Int) (IntKind.u64.wrap ((m % 128 * 128 ^ i : Nat) : Int)) = ((n + m % 128 * 128 ^ i : Nat) : Int) := by
        rw [u64_nat (by omega), or64 (by omega) (by omega), p128, or_sum (by rw [← p128]; exact hn)]
      rw [he] at hs
      by_cases h2 : 128 ≤ m
      · rw [if_pos h2] at hs
        rw [if_pos (by omega), Int.toNat_natCast, show m - 128 = m % 128 by omega]
        unfold varint_Read_l1
        rw [loopO_inl hs]
        exact ih (i + 1) _ (by omega) (by rw [Nat.pow_succ]; omega) (by omega)
      · rw [if_neg h2] at hs
        rw [if_neg (by omega), if_neg (by omega)]
        rw [if_neg (by omega)] at hs
        by_cases h4 : 0 < i ∧ m = 0
        · rw [if_pos h4] at hs
          rw [if_pos ⟨h4.1, by omega⟩]
          exact loopO_inr hs
        · rw [if_neg h4] at hs
          rw [if_neg (by omega), Int.toNat_natCast]
          refine (loopO_inr hs).trans ?_
          rw [show m % 128 = m by omega]; rfl
    · rw [List.drop_eq_nil_of_le (by omega), numG, if_neg (by omega)]
      refine loopO_inr ?_
      dsimp only
      unfold varint_Read_b1_0
      rw [decide_eq_false (show ¬ (i : Int) = 10 by omega), if_neg (by decide), decide_eq_true (by omega), if_pos rfl]; rfl
theorem vRead_eq {b : List Int} (hb : ∀ x ∈ b, U8 x) : varint_Read b = some (numI (num b)) := by
  unfold varint_Read num
  cases b with
  | nil => rfl
  | cons x l =>
    obtain ⟨m, hm, rfl⟩ := u8_nat (hb x (by simp))
    have := read_go ((m : Int) :: l) hb 8 1 (m % 128) (by omega) (by omega) (by simp)
    have e2 : slK .u64 (IntKind.u64.wrap (anK .u8 (m : Int) 127)) 0 = some ((m % 128 : Nat) : Int) := by
      have := sl_eq (i := 0) hm (by omega)
      rw [u64_nat (by omega), Nat.pow_zero, Nat.mul_one] at this
      exact this
    have e3 : orK .u64 0 ((m % 128 : Nat) : Int) = ((m % 128 : Nat) : Int) := by
      have := or64 (a := 0) (b := m % 128) (by omega) (by omega)
      rw [Nat.zero_or] at this
      exact this
    rw [decide_eq_false (by simp only [List.length_cons]; omega), if_neg (by decide), show ix ((m : Int) :: l) 0 = some (m : Int) from rfl, bind_some', e2, bind_some', bind_some', e3]
    by_cases h2 : 128 ≤ m
    · rw [decide_eq_true (by omega), if_pos rfl, numG, if_neg (by omega), if_pos (by omega)]
      refine this.trans ?_
      rw [List.drop_one, List.tail_cons, Int.toNat_natCast, show m - 128 = m % 128 by omega, Nat.pow_zero, Nat.mul_one, Nat.zero_add, Nat.zero_add]
    · rw [decide_eq_false (by omega), if_neg (by decide)]
      simp only [Bool.and_self, Bool.false_eq_true, if_false]
      rw [numG, if_neg (by omega), if_neg (by omega), if_neg (by omega), if_neg (by omega), Int.toNat_natCast, show m % 128 = m by omega, Nat.pow_zero, Nat.mul_one, Nat.zero_add]; rfl
end Go.Proofs.Ytaobbaohelpdgaa.Pl
