import Derived.Test.YtnmkonlfnpcoiaaP27ms
import Derived.Test.YtnmkonlfnpcoiaaSort
import Derived.Test.YtnmkonlfnpcoiaaSall
import Derived.Test.YtnmkonlfnpcoiaaLib
import Derived.Laws.Strings
namespace Go.Proofs.Ytnmkonlfnpcoiaa.Pl
set_option maxRecDepth 4000
theorem take_all {α : Type} {l : List α} : l.take l.length = l := List.take_length
theorem foldl_snoc {α S : Type} (f : S → α → S) (s : S) (l : List α) {k : Nat} (d : α) (h : k < l.length) : (l.take (k + 1)).foldl f s = f ((l.take k).foldl f s) (l.getD k d) := by
  rw [snoc_take d h, List.foldl_append]; rfl
def vbF : Nat → Nat → List Int
  | 0, _ => []
  | f + 1, n => if n < 128 then [(n : Int)] else ((n % 128 + 128 : Nat) : Int) :: vbF f (n / 128)
def vb (n : Nat) : List Int := vbF 10 n
theorem vbF_len : ∀ (f n : Nat), (vbF f n).length ≤ f
  | 0, _ => Nat.le_refl _
  | f + 1, n => by
    unfold vbF
    split
    · simp
    · have := vbF_len f (n / 128); simp; omega
theorem vb_len (n : Nat) : (vb n).length ≤ 10 := vbF_len 10 n
theorem or_128 : ∀ m : Fin 256, orK .u8 (m.val : Int) 128 = ((m.val % 128 + 128 : Nat) : Int) := by decide +kernel
theorem or_more (n : Nat) : orK .u8 (IntKind.u8.wrap (n : Int)) 128 = ((n % 128 + 128 : Nat) : Int) := by
  have e : IntKind.u8.wrap (n : Int) = ((n % 256 : Nat) : Int) := by rw [IntKind.wrap_u8]; omega
  rw [e]
  have := or_128 ⟨n % 256, Nat.mod_lt _ (by omega)⟩
  simp only at this
  rw [this]; omega
theorem srK7 (n : Nat) : srK .u64 (n : Int) 7 = some ((n / 128 : Nat) : Int) := by
  unfold srK
  rw [if_pos (by decide)]
  congr 1
theorem varint_small (x : Int) (n : Nat) (out : List Int) (h : n < 128) (hl : out.length + 1 ≤ 1000000000) : varint_Bytes_b2_0 x out (n : Int) = some (.inr (.inl (out ++ [(n : Int)], ad x 1))) := by
  unfold varint_Bytes_b2_0
  have e : IntKind.u8.wrap (n : Int) = (n : Int) := IntWalk.u8_in _ (by omega)
  rw [decide_eq_true (show (n : Int) < 128 by omega), if_pos rfl, e, app_le (by simpa using hl)]; rfl
theorem varint_big (x : Int) (n : Nat) (out : List Int) (h : ¬ n < 128) (hl : out.length + 1 ≤ 1000000000) : varint_Bytes_b2_0 x out (n : Int) = some (.inl (out ++ [((n % 128 + 128 : Nat) : Int)], ((n / 128 : Nat) : Int))) := by
  unfold varint_Bytes_b2_0
  rw [decide_eq_false (show ¬ (n : Int) < 128 by omega), if_neg (by decide), or_more, app_le (by simpa using hl), bind_some', srK7]; rfl
theorem varint_l2 (x : Int) : ∀ (f n : Nat) (out : List Int), n < 128 ^ (f + 1) → out.length + f + 1 ≤ 1000000000 → varint_Bytes_l2 x (out, (n : Int)) = some (.inl (out ++ vbF (f + 1) n, ad x 1))
  | f, n, out, h, hl => by
    by_cases hn : n < 128
    · have e : vbF (f + 1) n = [(n : Int)] := by unfold vbF; rw [if_pos hn]
      rw [e]
      exact loopO_inr (varint_small x n out hn (by omega))
    · cases f with
      | zero => exact (hn (by simpa using h)).elim
      | succ f =>
        have e : vbF (f + 1 + 1) n = ((n % 128 + 128 : Nat) : Int) :: vbF (f + 1) (n / 128) := by rw [vbF, if_neg hn]
        unfold varint_Bytes_l2
        rw [e, loopO_inl (varint_big x n out hn (by omega))]
        have ih := varint_l2 x f (n / 128) (out ++ [((n % 128 + 128 : Nat) : Int)]) (by rw [Nat.pow_succ] at h; omega) (by simp; omega)
        rw [List.append_assoc] at ih
        exact ih
theorem varint_eq {n : Nat} (h : n < 18446744073709551616) : varint_Bytes [(n : Int)] = some (vb n) := by
  unfold varint_Bytes varint_Bytes_l1
  rw [loopO_inl (s' := (vb n, 1)) (by
    unfold varint_Bytes_b1
    show (if decide ((0 : Int) < 1) then _ else _) = _
    rw [if_pos (by decide)]
    show varint_Bytes_l2 0 ([], (n : Int)) = _
    rw [varint_l2 0 9 n [] (by omega) (by simp)]; rfl)]
  exact loopO_inr (by unfold varint_Bytes_b1; rfl)
theorem Same_eq (a b : List Int) (hl : a.length < 1000000000) : ref07_Same a b = some (decide (a = b)) := by
  unfold ref07_Same
  by_cases he : a.length = b.length
  · rw [show (!decide ((a.length : Int) = (b.length : Int))) = false by simp [he], if_neg (by decide)]
    have hb : ∀ k, k < a.length → ref07_Same_b1 a b (k : Int) = if a.getD k 0 = b.getD k 0 then some (.inl ((k + 1 : Nat) : Int)) else some (.inr false) := fun k hk => by
      unfold ref07_Same_b1
      rw [dlt hk, if_pos rfl, ix_getD 0 hk, bind_some', ix_getD 0 (by omega), bind_some', ad_one (by omega)]
      by_cases h : a.getD k 0 = b.getD k 0
      · rw [if_pos h, decide_eq_true h]; rfl
      · rw [if_neg h, decide_eq_false h]; rfl
    have := loopO_all (body := fun s => ref07_Same_b1 a b s) (fun k => (k : Int)) a.length (fun k => a.getD k 0 = b.getD k 0) true false (fun k hk ho => by
      show ref07_Same_b1 _ _ _ = _
      rw [hb k hk, if_pos ho]) (fun k hk ho => by
      show ref07_Same_b1 _ _ _ = _
      rw [hb k hk, if_neg ho]) (by
      show ref07_Same_b1 _ _ _ = _
      unfold ref07_Same_b1
      rw [dnlt (Nat.lt_irrefl _), if_neg (by decide)]; rfl)
    refine (show ref07_Same_l1 a b 0 = _ from this).trans ?_
    congr 1
    rw [Bool.eq_iff_iff, decide_eq_true_iff]
    constructor
    · intro h
      split at h
      · rename_i h1; exact ext_getD 0 he h1
      · cases h
    · intro h
      subst h
      rw [if_pos fun _ _ => rfl]
  · rw [show (!decide ((a.length : Int) = (b.length : Int))) = true by simp; omega, if_pos rfl, decide_eq_false fun e => he (by rw [e])]
def numG (i n : Nat) : List Int → Nat × Nat × Int
  | [] => if i = 10 then (0, 0, 5) else (0, 0, 4)
  | x :: l => if i = 10 then (0, 0, 5) else if 128 ≤ x then numG (i + 1) (n + (x.toNat - 128) * 128 ^ i) l
    else if i = 9 ∧ 1 < x then (0, 0, 5) else if 0 < i ∧ x = 0 then (0, 0, 3) else (n + x.toNat * 128 ^ i, i + 1, 0)
def num (l : List Int) : Nat × Nat × Int := numG 0 0 l
def numI (r : Nat × Nat × Int) : Int × Int × Int := ((r.1 : Int), (r.2.1 : Int), r.2.2)
theorem or_sum {n m k : Nat} (h : n < 2 ^ k) : n ||| m * 2 ^ k = n + m * 2 ^ k := by
  have := Nat.two_pow_add_eq_or_of_lt h m
  rw [Nat.or_comm, Nat.mul_comm, ← this]; omega
theorem an127 : ∀ m : Fin 256, anK .u8 (m.val : Int) 127 = ((m.val % 128 : Nat) : Int) := by decide +kernel
theorem u64_nat {n : Nat} (h : n < 18446744073709551616) : IntKind.u64.wrap (n : Int) = (n : Int) := IntWalk.u64_in _ (by omega)
theorem or64 {a b : Nat} (ha : a < 18446744073709551616) (hb : b < 18446744073709551616) : orK .u64 (a : Int) (b : Int) = ((a ||| b : Nat) : Int) := by
  unfold orK
  rw [show IntKind.u64.bits = 64 from rfl, BitVec.toNat_or, BitVec.ofInt_natCast, BitVec.ofInt_natCast, BitVec.toNat_ofNat, BitVec.toNat_ofNat, Nat.mod_eq_of_lt (by omega), Nat.mod_eq_of_lt (by omega)]
  exact u64_nat (Nat.or_lt_two_pow (n := 64) (by omega) (by omega))
theorem p128 (i : Nat) : 128 ^ i = 2 ^ (7 * i) := by rw [Nat.pow_mul]
theorem u8_nat {x : Int} (h : U8 x) : ∃ m : Nat, m < 256 ∧ x = (m : Int) := ⟨x.toNat, by unfold U8 at h; omega, by unfold U8 at h; omega⟩
theorem sl_eq {m i : Nat} (hm : m < 256) (hi : i ≤ 9) : slK .u64 (IntKind.u64.wrap (anK .u8 (m : Int) 127)) ((7 * i : Nat) : Int) = some (IntKind.u64.wrap ((m % 128 * 128 ^ i : Nat) : Int)) := by
  have := an127 ⟨m, hm⟩
  simp only at this
  rw [this, u64_nat (by omega)]
  unfold slK
  rw [if_pos ⟨by omega, by rw [show IntKind.u64.bits = 64 from rfl]; omega⟩, Int.toNat_natCast, p128]
  congr 2
theorem read_step (b : List Int) (hb : ∀ x ∈ b, U8 x) (i n : Nat) (hi : i ≤ 9) (hn : n < 128 ^ i) (m : Nat) (hm : m < 256) (hl : i < b.length) (hx : b[i]? = some (m : Int)) :
    varint_Read_b1_0 b (n : Int) (i : Int) = if 128 ≤ m then some (.inl (orK .u64 (n : Int) (IntKind.u64.wrap ((m % 128 * 128 ^ i : Nat) : Int)), ((i + 1 : Nat) : Int))) else if i = 9 ∧ 1 < m then some (.inr (0, 0, 5)) else if 0 < i ∧ m = 0 then some (.inr (0, 0, 3)) else some (.inr (orK .u64 (n : Int) (IntKind.u64.wrap ((m % 128 * 128 ^ i : Nat) : Int)), ((i + 1 : Nat) : Int), 0)) := by
  unfold varint_Read_b1_0
  have e1 : ix b (i : Int) = some (m : Int) := by rw [ix_nat, hx]
  have e2 : ml 7 (i : Int) = ((7 * i : Nat) : Int) := by rw [ml_in (by omega)]; omega
  have e3 : ad (i : Int) 1 = ((i + 1 : Nat) : Int) := by rw [ad_in (by omega)]; omega
  have e4 : sb ((i + 1 : Nat) : Int) 1 = (i : Int) := by rw [sb_in (by omega)]; omega
  rw [decide_eq_false (show ¬ (i : Int) = 10 by omega), if_neg (by decide), decide_eq_false (show ¬ (i : Int) = (b.length : Int) by omega), if_neg (by decide), e1, bind_some', e2, sl_eq hm hi, bind_some', e3, e4, e1]
  simp only [bind_some']
  by_cases h1 : 128 ≤ m
  · rw [if_pos h1, decide_eq_true (by omega), if_pos rfl]
  · rw [if_neg h1, decide_eq_false (show ¬ (128 : Int) ≤ (m : Int) by omega), if_neg (by decide)]
    have c1 : ∀ (A B : Prop) [Decidable A] [Decidable B] (v : Int), (gd (decide A) (some v) 0).bind (fun x => some (decide A && decide (B))) = some (decide A && decide B) := fun A B _ _ v => by
      by_cases hA : A
      · rw [decide_eq_true hA]; rfl
      · rw [decide_eq_false hA]; rfl
    by_cases h2 : i = 9 ∧ 1 < m
    · rw [if_pos h2, decide_eq_true (by omega), gd_true, bind_some', decide_eq_true (by omega)]; rfl
    · rw [if_neg h2]
      have hf : ((gd (decide (((i + 1 : Nat) : Int) = 10)) (some (m : Int)) 0).bind fun x => some (decide (((i + 1 : Nat) : Int) = 10) && decide (1 < x))) = some false := by
        by_cases h9 : i = 9
        · rw [decide_eq_true (by omega), gd_true, bind_some', decide_eq_false (by omega)]; rfl
        · rw [decide_eq_false (by omega), gd_false, bind_some']; rfl
      obtain ⟨y, hy, hy2⟩ := obind hf
      rw [hy, bind_some', show (decide (((i + 1 : Nat) : Int) = 10) && decide (1 < y)) = false by injection hy2, if_neg (by decide)]
      by_cases h3 : 0 < i ∧ m = 0
      · rw [if_pos h3, decide_eq_true (by omega), gd_true, bind_some', decide_eq_true (by omega)]; rfl
      · rw [if_neg h3]
        have hf2 : ((gd (decide (1 < ((i + 1 : Nat) : Int))) (some (m : Int)) 0).bind fun x => some (decide (1 < ((i + 1 : Nat) : Int)) && decide (x = 0))) = some false := by
          by_cases h9 : 0 < i
          · rw [decide_eq_true (by omega), gd_true, bind_some', decide_eq_false (by omega)]; rfl
          · rw [decide_eq_false (by omega), gd_false, bind_some']; rfl
        obtain ⟨z, hz, hz2⟩ := obind hf2
        rw [hz, bind_some', show (decide (1 < ((i + 1 : Nat) : Int)) && decide (z = 0)) = false by injection hz2, if_neg (by decide)]; rfl
theorem getD_u8 {b : List Int} (hb : ∀ x ∈ b, U8 x) {i : Nat} (hi : i < b.length) : ∃ m : Nat, m < 256 ∧ b[i]? = some (m : Int) ∧ b.drop i = (m : Int) :: b.drop (i + 1) := by
  obtain ⟨m, hm, e⟩ := u8_nat (hb _ (List.getElem_mem hi))
  exact ⟨m, hm, by rw [List.getElem?_eq_getElem hi, e], by rw [List.drop_eq_getElem_cons hi, e]⟩
theorem read_go (b : List Int) (hb : ∀ x ∈ b, U8 x) : ∀ (k i n : Nat), i + k = 9 → n < 128 ^ i → i ≤ b.length → varint_Read_l1 b ((n : Int), (i : Int)) = some (numI (numG i n (b.drop i))) := by
  intro k
  induction k with
  | zero =>
    intro i n hi hn hl
    have : i = 9 := by omega
    subst this
    by_cases h1 : 9 < b.length
    · obtain ⟨m, hm, hx, hd⟩ := getD_u8 hb h1
      have hs := read_step b hb 9 n (by omega) hn m hm h1 hx
      rw [hd, numG, if_neg (by omega)]
      by_cases h2 : 128 ≤ m
      · rw [if_pos h2] at hs
        rw [if_pos (by omega)]
        unfold varint_Read_l1
        rw [loopO_inl hs]
        refine (loopO_inr (r := (0, 0, 5)) ?_).trans ?_
        · dsimp only
          unfold varint_Read_b1_0
          rw [decide_eq_true (by decide), if_pos rfl]; rfl
        · cases b.drop (9 + 1) <;> rfl
      · rw [if_neg h2] at hs
        rw [if_neg (by omega)]
        by_cases h3 : 1 < m
        · rw [if_pos ⟨rfl, h3⟩] at hs
          rw [if_pos ⟨rfl, by omega⟩]
          exact loopO_inr hs
        · rw [if_neg (by omega)] at hs
          rw [if_neg (by omega)]
          by_cases h4 : m = 0
          · rw [if_pos ⟨by omega, h4⟩] at hs
            rw [if_pos ⟨by omega, by omega⟩]
            exact loopO_inr hs
          · rw [if_neg (by omega)] at hs
            rw [if_neg (by omega)]
            refine (loopO_inr hs).trans ?_
            have hm1 : m = 1 := by omega
            subst hm1
            have hn' : n < 9223372036854775808 := hn
            rw [show (1 % 128 * 128 ^ 9 : Nat) = 1 * 2 ^ 63 by decide, u64_nat (by omega), or64 (by omega) (by omega), or_sum (by omega)]
            unfold numI
            simp
    · rw [List.drop_eq_nil_of_le (by omega), numG, if_neg (by omega)]
      refine loopO_inr ?_
      dsimp only
      unfold varint_Read_b1_0
      rw [decide_eq_false (by decide), if_neg (by decide), decide_eq_true (by omega), if_pos rfl]; rfl
  | succ k ih =>
    intro i n hi hn hl
    by_cases h1 : i < b.length
    · obtain ⟨m, hm, hx, hd⟩ := getD_u8 hb h1
      have hs := read_step b hb i n (by omega) hn m hm h1 hx
      rw [hd, numG, if_neg (by omega)]
      have hp := Nat.pow_le_pow_right (show 0 < 128 by omega) (show i ≤ 8 by omega)
      have hv : m % 128 * 128 ^ i ≤ 127 * 128 ^ i := Nat.mul_le_mul_right _ (by omega)
      have he : orK .u64 (n : Int) (IntKind.u64.wrap ((m % 128 * 128 ^ i : Nat) : Int)) = ((n + m % 128 * 128 ^ i : Nat) : Int) := by
        rw [u64_nat (by omega), or64 (by omega) (by omega), p128, or_sum (by rw [← p128]; exact hn)]
      rw [he] at hs
      by_cases h2 : 128 ≤ m
      · rw [if_pos h2] at hs
        rw [if_pos (by omega), Int.toNat_natCast, show m - 128 = m % 128 by omega]
        unfold varint_Read_l1
        rw [loopO_inl hs]
        exact ih (i + 1) _ (by omega) (by rw [Nat.pow_succ]; omega) (by omega)
      · rw [if_neg h2] at hs
        rw [if_neg (by omega), if_neg (by omega)]
        rw [if_neg (by omega)] at hs
        by_cases h4 : 0 < i ∧ m = 0
        · rw [if_pos h4] at hs
          rw [if_pos ⟨h4.1, by omega⟩]
          exact loopO_inr hs
        · rw [if_neg h4] at hs
          rw [if_neg (by omega), Int.toNat_natCast]
          refine (loopO_inr hs).trans ?_
          rw [show m % 128 = m by omega]; rfl
    · rw [List.drop_eq_nil_of_le (by omega), numG, if_neg (by omega)]
      refine loopO_inr ?_
      dsimp only
      unfold varint_Read_b1_0
      rw [decide_eq_false (show ¬ (i : Int) = 10 by omega), if_neg (by decide), decide_eq_true (by omega), if_pos rfl]; rfl
theorem vRead_eq {b : List Int} (hb : ∀ x ∈ b, U8 x) : varint_Read b = some (numI (num b)) := by
  unfold varint_Read num
  cases b with
  | nil => rfl
  | cons x l =>
    obtain ⟨m, hm, rfl⟩ := u8_nat (hb x (by simp))
    have := read_go ((m : Int) :: l) hb 8 1 (m % 128) (by omega) (by omega) (by simp)
    have e2 : slK .u64 (IntKind.u64.wrap (anK .u8 (m : Int) 127)) 0 = some ((m % 128 : Nat) : Int) := by
      have := sl_eq (i := 0) hm (by omega)
      rw [u64_nat (by omega), Nat.pow_zero, Nat.mul_one] at this
      exact this
    have e3 : orK .u64 0 ((m % 128 : Nat) : Int) = ((m % 128 : Nat) : Int) := by
      have := or64 (a := 0) (b := m % 128) (by omega) (by omega)
      rw [Nat.zero_or] at this
      exact this
    rw [decide_eq_false (by simp only [List.length_cons]; omega), if_neg (by decide), show ix ((m : Int) :: l) 0 = some (m : Int) from rfl, bind_some', e2, bind_some', bind_some', e3]
    by_cases h2 : 128 ≤ m
    · rw [decide_eq_true (by omega), if_pos rfl, numG, if_neg (by omega), if_pos (by omega)]
      refine this.trans ?_
      rw [List.drop_one, List.tail_cons, Int.toNat_natCast, show m - 128 = m % 128 by omega, Nat.pow_zero, Nat.mul_one, Nat.zero_add, Nat.zero_add]
    · rw [decide_eq_false (by omega), if_neg (by decide)]
      rw [numG, if_neg (by omega), if_neg (by omega), if_neg (by omega), if_neg (by omega), Int.toNat_natCast, show m % 128 = m by omega, Nat.pow_zero, Nat.mul_one, Nat.zero_add]; rfl
theorem num_invG : ∀ (l : List Int) (i n v s : Nat), (∀ x ∈ l, U8 x) → i ≤ 10 → numG i n l = (v, s, 0) → ∃ w, v = n + w * 128 ^ i ∧ i < s ∧ s ≤ i + l.length ∧ vbF (10 - i) w = l.take (s - i) ∧ (0 < i → 0 < w) ∧ (w + 1) * 128 ^ i ≤ 18446744073709551616
  | [], i, n, v, s, _, _, h => by
    rw [numG] at h
    split at h <;> simp at h
  | x :: l, i, n, v, s, hb, hi, h => by
    obtain ⟨m, hm, rfl⟩ := u8_nat (hb x (by simp))
    rw [numG] at h
    by_cases h10 : i = 10
    · rw [if_pos h10] at h; simp at h
    rw [if_neg h10] at h
    obtain ⟨j, hj⟩ : ∃ j, 10 - i = j + 1 := ⟨9 - i, by omega⟩
    by_cases h1 : (128 : Int) ≤ (m : Int)
    · rw [if_pos h1, Int.toNat_natCast] at h
      obtain ⟨w, e1, e2, e3, e4, e5, e6⟩ := num_invG l (i + 1) _ v s (fun y hy => hb y (by simp [hy])) (by omega) h
      have hw := e5 (by omega)
      refine ⟨(m - 128) + 128 * w, ?_, by omega, by simp only [List.length_cons]; omega, ?_, fun _ => by omega, ?_⟩
      · rw [e1, Nat.add_mul, Nat.pow_succ, Nat.mul_comm (128 ^ i) 128, ← Nat.mul_assoc, Nat.mul_comm w 128]; omega
      · rw [hj, vbF, if_neg (by omega), show s - i = (s - (i + 1)) + 1 by omega, List.take_succ_cons, show (m - 128 + 128 * w) % 128 + 128 = m by omega, show (m - 128 + 128 * w) / 128 = w by omega, show j = 10 - (i + 1) by omega, e4]
      · rw [Nat.pow_succ, Nat.mul_comm (128 ^ i), ← Nat.mul_assoc] at e6
        exact Nat.le_trans (Nat.mul_le_mul_right _ (by omega)) e6
    · rw [if_neg h1] at h
      by_cases h2 : i = 9 ∧ (1 : Int) < (m : Int)
      · rw [if_pos h2] at h; simp at h
      rw [if_neg h2] at h
      by_cases h3 : 0 < i ∧ (m : Int) = 0
      · rw [if_pos h3] at h; simp at h
      rw [if_neg h3, Int.toNat_natCast] at h
      injection h with a1 a2
      injection a2 with a2 a3
      refine ⟨m, a1.symm, by omega, by simp only [List.length_cons]; omega, ?_, fun _ => by omega, ?_⟩
      · rw [hj, vbF, if_pos (by omega), show s - i = 0 + 1 by omega, List.take_succ_cons, List.take_zero]
      · by_cases h9 : i = 9
        · subst h9
          have : (128 : Nat) ^ 9 = 9223372036854775808 := by decide
          rw [this]
          omega
        · have := Nat.pow_le_pow_right (show 0 < 128 by omega) (show i ≤ 8 by omega)
          have h2 : (m + 1) * 128 ^ i ≤ 128 * 128 ^ i := Nat.mul_le_mul_right _ (by omega)
          omega
theorem num_inv {l : List Int} {v s : Nat} (hb : ∀ x ∈ l, U8 x) (h : num l = (v, s, 0)) : v < 18446744073709551616 ∧ s ≤ l.length ∧ vb v = l.take s ∧ (vb v).length = s := by
  obtain ⟨w, e1, e2, e3, e4, e5, e6⟩ := num_invG l 0 0 v s hb (by omega) h
  rw [Nat.pow_zero, Nat.mul_one, Nat.zero_add] at e1
  subst e1
  have e4 : vb v = l.take s := e4
  exact ⟨by omega, by omega, e4, by rw [e4, List.length_take]; omega⟩
theorem num_len {l : List Int} (hb : ∀ x ∈ l, U8 x) : (num l).2.1 ≤ l.length := by
  by_cases h : (num l).2.2 = 0
  · exact (num_inv hb (v := (num l).1) (s := (num l).2.1) (by rw [← h])).2.1
  · have : ∀ (l : List Int) (i n : Nat), (numG i n l).2.2 ≠ 0 → (numG i n l).2.1 = 0 := by
      intro l
      induction l with
      | nil => intro i n h; rw [numG] at h ⊢; split <;> rfl
      | cons x l ih =>
        intro i n h
        rw [numG] at h ⊢
        split
        · rfl
        · rename_i h1
          rw [if_neg h1] at h
          split
          · rename_i h2
            rw [if_pos h2] at h
            exact ih _ _ h
          · rename_i h2
            rw [if_neg h2] at h
            split
            · rfl
            · rename_i h3
              rw [if_neg h3] at h
              split
              · rfl
              · rename_i h4
                rw [if_neg h4] at h
                exact (h rfl).elim
    have h2 : (num l).2.1 = 0 := this l 0 0 h
    omega
theorem vb_pos (n : Nat) : 0 < (vb n).length := by
  unfold vb
  rw [vbF]
  split <;> simp
open Go.Proofs.Ytnmkonlfnpcoiaa
set_option maxRecDepth 4000
abbrev T3 := Int × Int × Int
abbrev Ent := (Int × Int × Int) × List Int
def ltT (a b : T3) : Bool := decide (a.1 < b.1) || (decide (a.1 = b.1) && (decide (a.2.1 < b.2.1) || (decide (a.2.1 = b.2.1) && decide (a.2.2 < b.2.2))))
theorem ltT_iff (a b : T3) : ltT a b = true ↔ a.1 < b.1 ∨ a.1 = b.1 ∧ (a.2.1 < b.2.1 ∨ a.2.1 = b.2.1 ∧ a.2.2 < b.2.2) := by
  simp only [ltT, Bool.or_eq_true, Bool.and_eq_true, decide_eq_true_eq]
theorem ltT_not (a b : T3) : ltT a b = false ↔ ¬ (a.1 < b.1 ∨ a.1 = b.1 ∧ (a.2.1 < b.2.1 ∨ a.2.1 = b.2.1 ∧ a.2.2 < b.2.2)) := by
  rw [← ltT_iff, Bool.not_eq_true]
theorem ltT_tot {a b : T3} (h1 : ltT a b = false) (h2 : ltT b a = false) : a = b := by
  rw [ltT_not] at h1 h2
  obtain ⟨x, y, z⟩ := a
  obtain ⟨u, v, w⟩ := b
  simp only at h1 h2
  have e1 : x = u := by omega
  have e2 : y = v := by omega
  have e3 : z = w := by omega
  rw [e1, e2, e3]
theorem wless (a b : T3) : window_Less a b = some (ltT a b) := by
  unfold window_Less exact_Less ltT
  by_cases h : a.1 = b.1
  · rw [show (!decide (a.1 = b.1)) = false from by simp [h], show decide (a.1 < b.1) = false from by simp [h], show decide (a.1 = b.1) = true from by simpa using h]
    simp only [Bool.false_eq_true, if_false, bind_some', Bool.false_or, Bool.true_and]
  · rw [show (!decide (a.1 = b.1)) = true from by simp [h], show decide (a.1 = b.1) = false from by simpa using h]
    simp only [if_true, Bool.false_and, Bool.or_false]
theorem wkT : Wk ltT := ⟨fun x => (ltT_not x x).2 (by omega), fun {x y z} h1 h2 => by rw [ltT_iff] at *; omega, fun {x y z} h1 h2 => by rw [ltT_not] at *; omega⟩
def ltE (x y : Ent) : Bool := ltT x.1 y.1
theorem wkE : Wk ltE := ⟨fun x => wkT.ir x.1, fun h1 h2 => wkT.tr h1 h2, fun h1 h2 => wkT.nt h1 h2⟩
theorem swoE : Go.Sort.SWO ltE := ⟨wkE.ir, fun _ _ _ h1 h2 => wkE.tr h1 h2, fun _ _ _ h1 h2 => wkE.nt h1 h2⟩
theorem lfE : LfA ltE (fun (l : List Ent) i j => pack_packed_1 i j l) := by
  intro d i j h0 h1 h2 h3
  show pack_packed_1 i j d.toList = _
  unfold pack_packed_1
  rw [ix_at h0 (by simp only [Array.length_toList]; omega), bind_some', ix_at h1 (by simp only [Array.length_toList]; omega), bind_some', wless, bind_some']
  simp [ltE, h2, h3]
theorem inc_one {l a b : List Ent} (ha : a.Perm l) (hb : b.Perm l) (hn : (l.map (·.1)).Nodup) (ia : Inc ltE a) (ib : Inc ltE b) : a = b := by
  refine List.Perm.eq_of_pairwise (le := fun a b => ltE b a = false) (fun x y hx hy h1 h2 => ?_) ia ib (ha.trans hb.symm)
  have hx' := ha.mem_iff.1 hx
  have hy' := hb.mem_iff.1 hy
  have e : x.1 = y.1 := ltT_tot h2 h1
  obtain ⟨i, hi, rfl⟩ := List.getElem_of_mem hx'
  obtain ⟨j, hj, rfl⟩ := List.getElem_of_mem hy'
  have : i = j := (List.getElem_inj (h₀ := by simpa using hi) (h₁ := by simpa using hj) hn).1 (by simpa using e)
  subst this; rfl
theorem sortAll {l : List Ent} (hl : l.length < 128) (hn : (l.map (·.1)).Nodup) : sortAll23_48 l = some (isort ltE l) := by
  obtain ⟨d', e, hp, hs⟩ := srt_all (lt := ltE) (lf := fun (l : List Ent) i j => pack_packed_1 i j l) swoE lfE (d := l.toArray) (by simpa using hl)
  have e : sortAll23_48 l = some d'.toList := e
  rw [e]
  congr 1
  have hz : d'.size = l.length := by simpa using hp.1
  have hp2 : d'.toList.Perm l := by
    have := hp.2.2
    have h1 : (d'.extract 0 l.toArray.size).toList = d'.toList := by simp [← hz]
    have h2 : (l.toArray.extract 0 l.toArray.size).toList = l := by simp
    rwa [h1, h2] at this
  refine inc_one hp2 (isort_perm l) hn ?_ (isort_inc wkE l)
  unfold Inc
  rw [List.pairwise_iff_getElem]
  intro i j hi hj hij
  have := hs i j (Nat.zero_le _) hij (by simpa using hz ▸ hj)
  simp only [Array.length_toList] at hi hj
  simpa [hi, hj] using this
def cnt (z : Int) : Int := if 0 ≤ z ∧ z ≤ 4 then 2 ^ z.toNat else 0
theorem cnt_eq (z : Int) : window_count z = some (cnt z) := by
  unfold window_count snap_Side snap_level cnt
  by_cases h : 0 ≤ z ∧ z ≤ 4
  · rw [if_pos h, show decide (0 ≤ z) = true from by simpa using h.1, show decide (z ≤ 4) = true from by simpa using h.2]
    have : z = 0 ∨ z = 1 ∨ z = 2 ∨ z = 3 ∨ z = 4 := by omega
    rcases this with rfl | rfl | rfl | rfl | rfl <;> rfl
  · have : (decide (0 ≤ z) && decide (z ≤ 4)) = false := by simp; omega
    rw [if_neg h, this]; rfl
def rgt (t : T3) : Bool := decide (0 ≤ t.2.1) && decide (t.2.1 < cnt t.1) && decide (0 ≤ t.2.2) && decide (t.2.2 < cnt t.1)
theorem wright (t : T3) : window_Right t = some (rgt t) := by
  unfold window_Right rgt
  rw [cnt_eq, bind_some', bind_some', bind_some']
theorem cnt_le (z : Int) : cnt z ≤ 16 := by
  unfold cnt
  split
  · rename_i h
    have : z = 0 ∨ z = 1 ∨ z = 2 ∨ z = 3 ∨ z = 4 := by omega
    rcases this with rfl | rfl | rfl | rfl | rfl <;> decide
  · decide
theorem rgt_in {t : T3} (h : rgt t = true) : 0 ≤ t.1 ∧ t.1 ≤ 4 ∧ 0 ≤ t.2.1 ∧ t.2.1 < 16 ∧ 0 ≤ t.2.2 ∧ t.2.2 < 16 := by
  simp only [rgt, Bool.and_eq_true, decide_eq_true_eq] at h
  have h1 := cnt_le t.1
  have h2 : 0 ≤ t.1 ∧ t.1 ≤ 4 := Classical.byContradiction fun hc => by
    have : cnt t.1 = 0 := if_neg hc
    omega
  omega
def chk : List T3 → List Ent → Int
  | _, [] => 0
  | seen, e :: r => if rgt e.1 then (if e.1 ∈ seen then 8 else chk (seen ++ [e.1]) r) else 5
theorem chk_zero : ∀ (l : List Ent) (seen : List T3), chk seen l = 0 ↔ (∀ e ∈ l, rgt e.1 = true) ∧ (∀ e ∈ l, e.1 ∉ seen) ∧ (l.map (·.1)).Nodup
  | [], seen => by simp [chk]
  | e :: r, seen => by
    rw [chk]
    by_cases h1 : rgt e.1 = true
    · rw [if_pos h1]
      by_cases h2 : e.1 ∈ seen
      · rw [if_pos h2]
        simp [h2]
      · rw [if_neg h2, chk_zero r]
        simp only [List.mem_cons, forall_eq_or_imp, h1, true_and, h2, not_false_eq_true, List.map_cons, List.nodup_cons, List.mem_append, not_or, List.mem_singleton, List.mem_map, not_exists, not_and, List.not_mem_nil, or_false]
        constructor
        · rintro ⟨a, b, c⟩
          exact ⟨a, fun x hx => (b x hx).1, fun x hx h => (b x hx).2 h, c⟩
        · rintro ⟨a, b, c, d⟩
          exact ⟨a, fun x hx => ⟨b x hx, fun h => c x hx h⟩, d⟩
    · rw [if_neg h1]
      simp [h1]
theorem lk_up {K V : Type} [DecidableEq K] (k x : K) (v : V) : ∀ D : List (K × V), lkM (upM D k v) x = if x = k then some v else lkM D x
  | [] => rfl
  | p :: r => by
    unfold upM
    by_cases h : k = p.1
    · rw [if_pos h]
      unfold lkM
      by_cases hx : x = k
      · rw [if_pos hx, if_pos hx]
      · rw [if_neg hx, if_neg hx, if_neg (by rw [← h]; exact hx)]
    · rw [if_neg h]
      unfold lkM
      by_cases hx : x = p.1
      · rw [if_pos hx, if_pos hx, if_neg (by rw [hx]; exact fun hh => h hh.symm)]
      · rw [if_neg hx, if_neg hx, lk_up k x v r]
theorem bsS_inj {a b : List Int} (ha : ∀ x ∈ a, U8 x) (hb : ∀ x ∈ b, U8 x) (h : bsS a = bsS b) : a = b := by
  have h1 : (a.map fun n => UInt8.ofNat n.toNat) = b.map fun n => UInt8.ofNat n.toNat := by
    have := congrArg (fun s : ByteArray => s.data.toList) h
    exact this
  have key : ∀ l : List Int, (∀ x ∈ l, U8 x) → (l.map fun n => UInt8.ofNat n.toNat).map (fun u => (u.toNat : Int)) = l := by
    intro l hl
    rw [List.map_map]
    conv => rhs; rw [← List.map_id l]
    refine List.map_congr_left fun x hx => ?_
    have := hl x hx
    unfold U8 at this
    simp only [Function.comp, id, UInt8.toNat_ofNat']
    omega
  rw [← key a ha, ← key b hb, h1]
def stB (s : List (List Int) × List (T3 × Int)) (e : Ent) : List (List Int) × List (T3 × Int) :=
  if e.2 ∈ s.1 then (s.1, s.2 ++ [(e.1, (s.1.idxOf e.2 : Int))]) else (s.1 ++ [e.2], s.2 ++ [(e.1, (s.1.length : Int))])
def arc (S : List Ent) : List (List Int) × List (T3 × Int) := S.foldl stB ([], [])
def NumsOk (D : List (ByteArray × Int)) (bl : List (List Int)) : Prop := ∀ b : List Int, (∀ x ∈ b, U8 x) → lkM D (bsS b) = if b ∈ bl then some (bl.idxOf b : Int) else none
theorem NumsOk.up {D : List (ByteArray × Int)} {bl : List (List Int)} (h : NumsOk D bl) {e : List Int} (he : ∀ x ∈ e, U8 x) (hn : e ∉ bl) : NumsOk (upM D (bsS e) (bl.length : Int)) (bl ++ [e]) := by
  intro b hb
  rw [lk_up]
  by_cases hc : b = e
  · subst hc
    rw [if_pos rfl, if_pos (by simp)]
    rw [List.idxOf_append, if_neg hn]
    simp
  · rw [if_neg (fun hh => hc (bsS_inj hb he hh)), h b hb]
    by_cases hm : b ∈ bl
    · rw [if_pos hm, if_pos (by simp [hm]), List.idxOf_append, if_pos hm]
    · rw [if_neg hm, if_neg (by simp [hm, hc])]
theorem arc_len (S : List Ent) : (arc S).1.length ≤ S.length ∧ (arc S).2.length = S.length := by
  have : ∀ (S : List Ent) (s : List (List Int) × List (T3 × Int)), (S.foldl stB s).1.length ≤ s.1.length + S.length ∧ (S.foldl stB s).2.length = s.2.length + S.length := by
    intro S
    induction S with
    | nil => intro s; simp
    | cons e r ih =>
      intro s
      rw [List.foldl_cons]
      have h := ih (stB s e)
      have h1 : (stB s e).1.length ≤ s.1.length + 1 ∧ (stB s e).2.length = s.2.length + 1 := by
        unfold stB
        split <;> simp
      simp only [List.length_cons]
      omega
  simpa [arc] using this S ([], [])
theorem packed_l2 (head : List Int) (S : List Ent) (hu : ∀ e ∈ S, ∀ x ∈ e.2, U8 x) (hS : S.length ≤ 1000) : ∀ (rest pre : List Ent) (D : List (ByteArray × Int)), S = pre ++ rest → NumsOk D (arc pre).1 →
    pack_packed_l2 head S ((arc pre).1, (arc pre).2, D, (pre.length : Int)) = some (.inl ((head, (arc S).1, (arc S).2), 0)) := by
  intro rest
  induction rest with
  | nil =>
    intro pre D h hD
    rw [List.append_nil] at h
    subst h
    refine loopO_inr ?_
    show pack_packed_b2 head S _ _ _ _ = _
    unfold pack_packed_b2
    rw [show decide ((S.length : Int) < (S.length : Int)) = false from by simp]
    rfl
  | cons e r ih =>
    intro pre D h hD
    have hk : pre.length < S.length := by rw [h]; simp
    have he : ix S (pre.length : Int) = some e := by
      rw [ix_getD e hk, h]
      congr 1
      rw [getD_append_right (Nat.le_refl _), Nat.sub_self]; rfl
    have hue : ∀ x ∈ e.2, U8 x := hu e (by rw [h]; simp)
    have hal := arc_len pre
    have hst : arc (pre ++ [e]) = stB (arc pre) e := by unfold arc; rw [List.foldl_append]; rfl
    have hpl : pre.length + (r.length + 1) = S.length := by rw [h]; simp
    have next : ∀ D2 : List (ByteArray × Int), NumsOk D2 (arc (pre ++ [e])).1 → pack_packed_b2 head S (arc pre).1 (arc pre).2 D (pre.length : Int) = some (.inl ((arc (pre ++ [e])).1, (arc (pre ++ [e])).2, D2, ((pre ++ [e]).length : Int))) →
        pack_packed_l2 head S ((arc pre).1, (arc pre).2, D, (pre.length : Int)) = some (.inl ((head, (arc S).1, (arc S).2), 0)) := fun D2 h2 hb =>
      (loopO_inl hb).trans (ih (pre ++ [e]) D2 (by rw [h]; simp) h2)
    have hlk := hD e.2 hue
    have e1 : ad (pre.length : Int) 1 = ((pre ++ [e]).length : Int) := by rw [ad_one (by omega)]; simp
    by_cases hm : e.2 ∈ (arc pre).1
    · rw [if_pos hm] at hlk
      have hs : stB (arc pre) e = ((arc pre).1, (arc pre).2 ++ [(e.1, ((arc pre).1.idxOf e.2 : Int))]) := if_pos hm
      refine next D (by rw [hst, hs]; exact hD) ?_
      rw [hst, hs]
      unfold pack_packed_b2 pack_packed_k3
      rw [dlt hk, if_pos rfl, he, bind_some', hlk]
      simp only [Option.isSome_some, Bool.not_true, Bool.false_eq_true, if_false, Option.getD_some]
      rw [app_le (by simp; omega), bind_some', e1]
    · rw [if_neg hm] at hlk
      have hs : stB (arc pre) e = ((arc pre).1 ++ [e.2], (arc pre).2 ++ [(e.1, ((arc pre).1.length : Int))]) := if_neg hm
      refine next (upM D (bsS e.2) ((arc pre).1.length : Int)) (by rw [hst, hs]; exact hD.up hue hm) ?_
      rw [hst, hs]
      unfold pack_packed_b2 pack_packed_k3
      rw [dlt hk, if_pos rfl, he, bind_some', hlk]
      simp only [Option.isSome_none, Bool.not_false, if_true, bind_some']
      rw [app_le (by simp; omega), bind_some', app_le (by simp; omega), bind_some', e1]
def MetOk (D : List (T3 × Bool)) (seen : List T3) : Prop := ∀ t, (lkM D t).getD false = decide (t ∈ seen)
theorem packed_l1 (head : List Int) (l : List Ent) (hu : ∀ e ∈ l, ∀ x ∈ e.2, U8 x) (hl : l.length < 128) (hn : chk [] l = 0 → (l.map (·.1)).Nodup) : ∀ (rest pre : List Ent) (D : List (T3 × Bool)), l = pre ++ rest → chk [] l = chk (pre.map (·.1)) rest → MetOk D (pre.map (·.1)) →
    pack_packed_l1 head l (D, (pre.length : Int)) = some (if chk [] l = 0 then .inl ((head, (arc (isort ltE l)).1, (arc (isort ltE l)).2), 0) else .inr ((), chk [] l)) := by
  intro rest
  induction rest with
  | nil =>
    intro pre D h hc hD
    rw [List.append_nil] at h
    subst h
    have h0 : chk [] l = 0 := by rw [hc]; rfl
    rw [if_pos h0]
    refine loopO_inr ?_
    show pack_packed_b1 head l D (l.length : Int) = _
    unfold pack_packed_b1 slices_Clone_pack_Entry_pack_Entry
    rw [show decide ((l.length : Int) < (l.length : Int)) = false from by simp]
    simp only [Bool.false_eq_true, if_false]
    rw [app_le (by simp; omega), bind_some', bind_some', List.nil_append, sortAll hl (hn h0), bind_some']
    have := packed_l2 head (isort ltE l) (fun e he => hu e ((isort_perm l).mem_iff.1 he)) (by rw [isort_len]; omega) (isort ltE l) [] [] rfl (fun b _ => by simp [arc, lkM])
    rw [show (arc []).1 = [] from rfl, show (arc []).2 = [] from rfl, show ((([] : List Ent).length : Nat) : Int) = 0 from rfl] at this
    rw [this]
    rfl
  | cons e r ih =>
    intro pre D h hc hD
    have hk : pre.length < l.length := by rw [h]; simp
    have he : ix l (pre.length : Int) = some e := by
      rw [ix_getD e hk, h]
      congr 1
      rw [getD_append_right (Nat.le_refl _), Nat.sub_self]; rfl
    rw [chk] at hc
    have hD' := hD e.1
    by_cases h1 : rgt e.1 = true
    · rw [if_pos h1] at hc
      by_cases h2 : e.1 ∈ pre.map (·.1)
      · rw [if_pos h2] at hc
        rw [hc, if_neg (by decide)]
        refine loopO_inr ?_
        show pack_packed_b1 head l D (pre.length : Int) = _
        unfold pack_packed_b1
        rw [dlt hk, if_pos rfl, he, bind_some', wright, bind_some', h1, hD', decide_eq_true h2]
        rfl
      · rw [if_neg h2] at hc
        refine (loopO_inl (s' := (upM D e.1 true, ((pre ++ [e]).length : Int))) ?_).trans (ih (pre ++ [e]) _ (by rw [h]; simp) (by rw [hc]; simp) (fun t => ?_))
        · show pack_packed_b1 head l D (pre.length : Int) = _
          unfold pack_packed_b1
          rw [dlt hk, if_pos rfl, he, bind_some', wright, bind_some', h1, hD', decide_eq_false h2]
          simp only [Bool.not_true, Bool.false_eq_true, if_false, bind_some']
          rw [ad_one (by omega)]; simp
        · rw [lk_up]
          by_cases ht : t = e.1
          · rw [if_pos ht]; simp [ht]
          · rw [if_neg ht, hD t]; simp [ht]
    · rw [if_neg h1] at hc
      rw [hc, if_neg (by decide)]
      refine loopO_inr ?_
      show pack_packed_b1 head l D (pre.length : Int) = _
      unfold pack_packed_b1
      rw [dlt hk, if_pos rfl, he, bind_some', wright, bind_some', show rgt e.1 = false from by simpa using h1]
      rfl
theorem packed_eq {head : List Int} {l : List Ent} (hu : ∀ e ∈ l, ∀ x ∈ e.2, U8 x) (hl : l.length < 128) :
    pack_packed head l = some (if chk [] l = 0 then .inl ((head, (arc (isort ltE l)).1, (arc (isort ltE l)).2), 0) else .inr ((), chk [] l)) := by
  unfold pack_packed
  have := packed_l1 head l hu hl (fun h => ((chk_zero l []).1 h).2.2) l [] [] rfl rfl (fun t => by simp [lkM])
  exact this
open Go.Proofs.Ytnmkonlfnpcoiaa
set_option maxRecDepth 8000
theorem cut_mn {α : Type} (l : List α) (k : Nat) : cut l 0 (mn (l.length : Int) (k : Int)) = some (l.take k) := by
  by_cases h : k ≤ l.length
  · rw [show mn (l.length : Int) (k : Int) = (k : Int) by unfold mn; omega]; exact cut_to h
  · rw [show mn (l.length : Int) (k : Int) = (l.length : Int) by unfold mn; omega, cut_to (Nat.le_refl _), List.take_of_length_le (by omega), List.take_of_length_le (by omega)]
theorem arc_mem (S : List Ent) : (∀ b ∈ (arc S).1, ∃ e ∈ S, b = e.2) ∧ (∀ s ∈ (arc S).2, (∃ e ∈ S, s.1 = e.1) ∧ 0 ≤ s.2 ∧ s.2 < ((arc S).1.length : Int)) := by
  have key : ∀ (rest pre : List Ent), S = pre ++ rest → ((∀ b ∈ (arc pre).1, ∃ e ∈ S, b = e.2) ∧ (∀ s ∈ (arc pre).2, (∃ e ∈ S, s.1 = e.1) ∧ 0 ≤ s.2 ∧ s.2 < ((arc pre).1.length : Int))) →
      (∀ b ∈ (arc S).1, ∃ e ∈ S, b = e.2) ∧ (∀ s ∈ (arc S).2, (∃ e ∈ S, s.1 = e.1) ∧ 0 ≤ s.2 ∧ s.2 < ((arc S).1.length : Int)) := by
    intro rest
    induction rest with
    | nil => intro pre h hp; rw [List.append_nil] at h; subst h; exact hp
    | cons e r ih =>
      intro pre h hp
      refine ih (pre ++ [e]) (by rw [h]; simp) ?_
      have hst : arc (pre ++ [e]) = stB (arc pre) e := by unfold arc; rw [List.foldl_append]; rfl
      have he : e ∈ S := by rw [h]; simp
      rw [hst]
      unfold stB
      by_cases hm : e.2 ∈ (arc pre).1
      · rw [if_pos hm]
        refine ⟨hp.1, fun s hs => ?_⟩
        rcases List.mem_append.1 hs with hs | hs
        · exact hp.2 s hs
        · rw [List.mem_singleton] at hs
          subst hs
          have := List.idxOf_lt_length_of_mem hm
          exact ⟨⟨e, he, rfl⟩, by simp, by simp only; omega⟩
      · rw [if_neg hm]
        refine ⟨fun b hb => ?_, fun s hs => ?_⟩
        · rcases List.mem_append.1 hb with hb | hb
          · exact hp.1 b hb
          · rw [List.mem_singleton] at hb; exact ⟨e, he, hb⟩
        · rcases List.mem_append.1 hs with hs | hs
          · obtain ⟨a, b, c⟩ := hp.2 s hs
            exact ⟨a, b, by simp only [List.length_append, List.length_singleton]; omega⟩
          · rw [List.mem_singleton] at hs
            subst hs
            exact ⟨⟨e, he, rfl⟩, by simp, by simp; omega⟩
  exact key S [] rfl ⟨by simp [arc], by simp [arc]⟩
def wB (b : List Int) : List Int := vb b.length ++ b
def slB (s : T3 × Int) : List Int := vb s.1.1.toNat ++ vb s.1.2.1.toNat ++ vb s.1.2.2.toNat ++ vb s.2.toNat
def bytesA (head : List Int) (A : List (List Int) × List (T3 × Int)) : List Int := [71, 82, 84, 49] ++ wB head ++ vb A.1.length ++ A.1.flatMap wB ++ vb A.2.length ++ A.2.flatMap slB
theorem put_eq {k : Int} {out : List Int} (h0 : 0 ≤ k) (h : k < 9223372036854775808) (hl : out.length ≤ 999999900) : pack_Write_1 k out = some (out ++ vb k.toNat) := by
  unfold pack_Write_1
  have e : IntKind.u64.wrap k = (k.toNat : Int) := (IntWalk.u64_in _ (by omega)).trans (by omega)
  have := vb_len k.toNat
  rw [e, varint_eq (by omega), bind_some', app_le (by omega)]; rfl
theorem putv_eq {k : Int} {out : List Int} (h0 : 0 ≤ k) (h : k < 9223372036854775808) (hl : out.length ≤ 999999900) : pack_Write_1_v k out = some (out ++ vb k.toNat) := by
  unfold pack_Write_1_v
  have e : IntKind.u64.wrap k = (k.toNat : Int) := (IntWalk.u64_in _ (by omega)).trans (by omega)
  have := vb_len k.toNat
  have hp := vb_pos k.toNat
  have ha : apF out (vb k.toNat) = app out (vb k.toNat) := by
    cases hv : vb k.toNat with
    | nil => rw [hv] at hp; simp at hp
    | cons x m => rfl
  rw [e, varint_eq (by omega), bind_some', ha, app_le (by omega)]; rfl
theorem wB_len (b : List Int) : (wB b).length ≤ b.length + 10 := by
  have := vb_len b.length
  simp [wB]; omega
theorem whole_eq {b out : List Int} (hb : b.length ≤ 1000000) (hl : out.length ≤ 900000000) : pack_Write_2 b out = some (out ++ wB b) := by
  unfold pack_Write_2
  have := vb_len b.length
  rw [putv_eq (by omega) (by omega) (by omega), bind_some', show ((b.length : Int).toNat) = b.length from rfl, app_le (by simp; omega), bind_some', wB, List.append_assoc]
theorem wholev_eq {b out : List Int} (hb : b.length ≤ 1000000) (hl : out.length ≤ 900000000) : pack_Write_2_v b out = some (out ++ wB b) := by
  unfold pack_Write_2_v
  have := vb_len b.length
  rw [put_eq (by omega) (by omega) (by omega), bind_some', show ((b.length : Int).toNat) = b.length from rfl, app_le (by simp; omega), bind_some', wB, List.append_assoc]
theorem slB_len (s : T3 × Int) : (slB s).length ≤ 40 := by
  have h1 := vb_len s.1.1.toNat
  have h2 := vb_len s.1.2.1.toNat
  have h3 := vb_len s.1.2.2.toNat
  have h4 := vb_len s.2.toNat
  simp [slB]; omega
def SlOk (s : T3 × Int) : Prop := 0 ≤ s.1.1 ∧ s.1.1 ≤ 4 ∧ 0 ≤ s.1.2.1 ∧ s.1.2.1 < 16 ∧ 0 ≤ s.1.2.2 ∧ s.1.2.2 < 16 ∧ 0 ≤ s.2 ∧ s.2 < 1000
theorem write_l2 (r : ((List Int) × (List (List Int)) × (List (T3 × Int))) × Int) (hr : ∀ s ∈ r.1.2.2, SlOk s) (hn : r.1.2.2.length ≤ 1000) : ∀ (rest pre : List (T3 × Int)) (out : List Int), r.1.2.2 = pre ++ rest → out.length ≤ 800000000 + 40 * pre.length →
    pack_Write_l2 r (out, (pre.length : Int)) = some (out ++ rest.flatMap slB, 0) := by
  intro rest
  induction rest with
  | nil =>
    intro pre out h hl
    rw [List.append_nil] at h
    refine loopO_inr ?_
    show pack_Write_b2 r out _ = _
    unfold pack_Write_b2
    rw [h, show decide ((pre.length : Int) < (pre.length : Int)) = false from by simp]
    simp
  | cons s rest ih =>
    intro pre out h hl
    have hk : pre.length < r.1.2.2.length := by rw [h]; simp
    have he : ix r.1.2.2 (pre.length : Int) = some s := by
      rw [ix_getD s hk, h]
      congr 1
      rw [getD_append_right (Nat.le_refl _), Nat.sub_self]; rfl
    obtain ⟨a1, a2, a3, a4, a5, a6, a7, a8⟩ := hr s (by rw [h]; simp)
    have v1 := vb_len s.1.1.toNat
    have v2 := vb_len s.1.2.1.toNat
    have v3 := vb_len s.1.2.2.toNat
    have v4 := slB_len s
    refine (loopO_inl (s' := (out ++ slB s, ((pre ++ [s]).length : Int))) ?_).trans ((ih (pre ++ [s]) (out ++ slB s) (by rw [h]; simp) (by simp; omega)).trans (by simp))
    show pack_Write_b2 r out _ = _
    unfold pack_Write_b2
    rw [dlt hk, if_pos rfl, he, bind_some', put_eq a1 (by omega) (by omega), bind_some', put_eq a3 (by omega) (by simp; omega), bind_some', put_eq a5 (by omega) (by simp; omega), bind_some', put_eq a7 (by omega) (by simp; omega), bind_some', ad_one (by omega)]
    simp [slB]
theorem write_l1 (r : ((List Int) × (List (List Int)) × (List (T3 × Int))) × Int) (hr : ∀ s ∈ r.1.2.2, SlOk s) (hn : r.1.2.2.length ≤ 1000) (hb : ∀ b ∈ r.1.2.1, b.length ≤ 100000) (hm : r.1.2.1.length ≤ 1000) : ∀ (rest pre : List (List Int)) (out : List Int), r.1.2.1 = pre ++ rest → out.length ≤ 1000000 + 100010 * pre.length →
    pack_Write_l1 r (out, (pre.length : Int)) = some (out ++ rest.flatMap wB ++ vb r.1.2.2.length ++ r.1.2.2.flatMap slB, 0) := by
  intro rest
  induction rest with
  | nil =>
    intro pre out h hl
    rw [List.append_nil] at h
    have hpl : pre.length ≤ 1000 := by rw [← h]; exact hm
    have v := vb_len r.1.2.2.length
    refine loopO_inr ?_
    show pack_Write_b1 r out _ = _
    unfold pack_Write_b1
    rw [h, show decide ((pre.length : Int) < (pre.length : Int)) = false from by simp]
    simp only [Bool.false_eq_true, if_false]
    rw [put_eq (by omega) (by omega) (by omega), bind_some', show ((r.1.2.2.length : Int).toNat) = r.1.2.2.length from rfl]
    have := write_l2 r hr hn r.1.2.2 [] (out ++ vb r.1.2.2.length) rfl (by simp; omega)
    rw [show ((([] : List (T3 × Int)).length : Nat) : Int) = 0 from rfl] at this
    rw [this]
    simp
  | cons s rest ih =>
    intro pre out h hl
    have hk : pre.length < r.1.2.1.length := by rw [h]; simp
    have he : ix r.1.2.1 (pre.length : Int) = some s := by
      rw [ix_getD s hk, h]
      congr 1
      rw [getD_append_right (Nat.le_refl _), Nat.sub_self]; rfl
    have hs := hb s (by rw [h]; simp)
    have v := wB_len s
    refine (loopO_inl (s' := (out ++ wB s, ((pre ++ [s]).length : Int))) ?_).trans ((ih (pre ++ [s]) (out ++ wB s) (by rw [h]; simp) (by simp; omega)).trans (by simp))
    show pack_Write_b1 r out _ = _
    unfold pack_Write_b1
    rw [dlt hk, if_pos rfl, he, bind_some', wholev_eq (by omega) (by omega), bind_some', ad_one (by omega)]
    simp
theorem arc_ok {l : List Ent} (h0 : chk [] l = 0) (hl : l.length < 128) : ∀ s ∈ (arc (isort ltE l)).2, SlOk s := by
  intro s hs
  have ha := arc_len (isort ltE l)
  obtain ⟨⟨e, he, e1⟩, h1, h2⟩ := (arc_mem (isort ltE l)).2 s hs
  have hr := rgt_in (((chk_zero l []).1 h0).1 e ((isort_perm l).mem_iff.1 he))
  rw [isort_len] at ha
  unfold SlOk
  rw [e1]
  omega
theorem write_eq {head : List Int} {l : List Ent} (hu : ∀ e ∈ l, ∀ x ∈ e.2, U8 x) (hl : l.length < 128) (hh : head.length ≤ 100000) (hb : ∀ e ∈ l, e.2.length ≤ 100000) :
    pack_Write head l = some (if chk [] l = 0 then (bytesA head (arc (isort ltE l)), 0) else ([], chk [] l)) := by
  unfold pack_Write
  rw [packed_eq hu hl]
  by_cases h0 : chk [] l = 0
  · rw [if_pos h0, if_pos h0, rngO_inl]
    have ha := arc_len (isort ltE l)
    rw [isort_len] at ha
    have hw := wB_len head
    have v := vb_len (arc (isort ltE l)).1.length
    simp only [decide_true, Bool.not_true, Bool.false_eq_true, if_false]
    rw [whole_eq (by omega) (by simp), bind_some', put_eq (by omega) (by omega) (by simp; omega), bind_some', show (((arc (isort ltE l)).1.length : Int).toNat) = (arc (isort ltE l)).1.length from rfl]
    have := write_l1 ((head, (arc (isort ltE l)).1, (arc (isort ltE l)).2), 0) (arc_ok h0 hl) (by simp only; omega) (fun b hb' => by
      obtain ⟨e, he, rfl⟩ := (arc_mem (isort ltE l)).1 b hb'
      exact hb e ((isort_perm l).mem_iff.1 he)) (by simp only; omega) (arc (isort ltE l)).1 [] ([71, 82, 84, 49] ++ wB head ++ vb (arc (isort ltE l)).1.length) rfl (by simp; omega)
    rw [show ((([] : List (List Int)).length : Nat) : Int) = 0 from rfl] at this
    rw [this]
    rfl
  · rw [if_neg h0, if_neg h0, rngO_inr]
    rw [show (!decide (chk [] l = 0)) = true from by simpa using h0]
    rfl
theorem write0 : pack_Write [] [] = some ([71, 82, 84, 49, 0, 0, 0], 0) := by
  rw [write_eq (fun e he => (by cases he)) (by decide) (by decide) (fun e he => (by cases he))]; rfl
theorem write1 : pack_Write [] [((0, 0, 0), [7])] = some ([71, 82, 84, 49, 0, 1, 1, 7, 1, 0, 0, 0, 0], 0) := by
  rw [write_eq (fun e he x hx => by
    rw [List.mem_singleton] at he; subst he
    rw [List.mem_singleton] at hx; subst hx
    unfold U8; omega) (by decide) (by decide) (fun e he => by rw [List.mem_singleton] at he; subst he; decide)]
  rfl
theorem pre1 : strings_HasPrefix (bsS [71, 82, 84, 49, 0, 1, 1, 7, 1, 0, 0, 0, 0]) (⟨#[71, 82, 84, 49]⟩ : ByteArray) = some true := by decide +kernel
theorem open1 : pack_Open [71, 82, 84, 49, 0, 1, 1, 7, 1, 0, 0, 0, 0] = some (.inl (([], [[7]], [((0, 0, 0), 0)]), 0)) := by
  unfold pack_Open
  rw [pre1, bind_some', if_neg (by decide)]
  refine (show _ = pack_Open_l1 (Sum.inl ([], [[7]], upM [] (bsS [7]) true, [1, 0, 0, 0, 0], 0, 1, 1)) from rfl).trans ?_
  refine (show loopO _ _ = _ from (loopO_inl (s' := Sum.inr ([], [[7]], [((0, 0, 0), 0)], [], 0, 1, 1, 1, (0, 0, 0))) rfl).trans (loopO_inr rfl))
theorem known27 : law27_known = some true := by
  unfold law27_known
  rw [write0, bind_some', write1, bind_some', open1, rngO_inl]
  simp only [decide_true, Bool.and_self, bind_some', gd_true]
  rw [Same_eq _ _ (by simp), bind_some']
  simp only [decide_true, Bool.and_self, bind_some', gd_true]
  rw [Same_eq _ _ (by simp), bind_some']
  rfl
open Go.Proofs.Ytnmkonlfnpcoiaa
set_option maxRecDepth 4000
inductive Prs (α : Type) where
  | ret (a : α)
  | err (e : Int)
  | nx (k : Nat → Prs α)
  | by (n : Nat) (k : List Int → Prs α)
inductive Tok where
  | num (n : Nat)
  | raw (l : List Int)
def Tok.b : Tok → List Int
  | .num n => vb n
  | .raw l => l
def Tok.ok : Tok → Prop
  | .num n => n < 18446744073709551616
  | .raw _ => True
section
variable {α β γ : Type}
def Prs.bnd : Prs α → (α → Prs β) → Prs β
  | .ret a, f => f a
  | .err e, _ => .err e
  | .nx k, f => .nx fun x => (k x).bnd f
  | .by n k, f => .by n fun x => (k x).bnd f
def runA (b : List Int) : Prs α → Nat → (α × Nat) ⊕ Int
  | .ret a, p => .inl (a, p)
  | .err e, _ => .inr e
  | .nx k, p => if (num (b.drop p)).2.2 = 0 then runA b (k (num (b.drop p)).1) (p + (num (b.drop p)).2.1) else .inr (num (b.drop p)).2.2
  | .by n k, p => if n ≤ (b.drop p).length then runA b (k ((b.drop p).take n)) (p + n) else .inr 4
def eat : Prs α → List Tok → Option α
  | .ret a, [] => some a
  | .nx k, .num x :: xs => eat (k x) xs
  | .by n k, .raw l :: xs => if l.length = n then eat (k l) xs else none
  | _, _ => none
def cat (xs : List Tok) : List Int := xs.flatMap Tok.b
theorem cat_cons (x : Tok) (xs : List Tok) : cat (x :: xs) = x.b ++ cat xs := rfl
theorem cat_app (xs ys : List Tok) : cat (xs ++ ys) = cat xs ++ cat ys := List.flatMap_append
theorem runA_bnd {b : List Int} (f : α → Prs β) : ∀ (p : Prs α) (i : Nat), runA b (p.bnd f) i = match runA b p i with
    | .inl (a, j) => runA b (f a) j
    | .inr e => .inr e
  | .ret a, i => rfl
  | .err e, i => rfl
  | .nx k, i => by
    show (if (num (b.drop i)).2.2 = 0 then runA b ((k _).bnd f) _ else _) = _
    rw [runA]
    by_cases h : (num (b.drop i)).2.2 = 0
    · rw [if_pos h, if_pos h, runA_bnd f (k _)]
    · rw [if_neg h, if_neg h]
  | .by n k, i => by
    show (if n ≤ (b.drop i).length then runA b ((k _).bnd f) _ else _) = _
    rw [runA]
    by_cases h : n ≤ (b.drop i).length
    · rw [if_pos h, if_pos h, runA_bnd f (k _)]
    · rw [if_neg h, if_neg h]
theorem runA_inv {b : List Int} (hb : ∀ x ∈ b, U8 x) : ∀ (p : Prs α) (i : Nat) (a : α) (j : Nat), i ≤ b.length → runA b p i = .inl (a, j) → ∃ xs, (∀ x ∈ xs, x.ok) ∧ eat p xs = some a ∧ b.drop i = cat xs ++ b.drop j ∧ j = i + (cat xs).length ∧ j ≤ b.length
  | .ret c, i, a, j, hi, h => by
    injection h with h
    injection h with h1 h2
    subst h1 h2
    exact ⟨[], by simp, rfl, rfl, rfl, hi⟩
  | .err e, i, a, j, hi, h => by cases h
  | .nx k, i, a, j, hi, h => by
    rw [runA] at h
    by_cases h0 : (num (b.drop i)).2.2 = 0
    · rw [if_pos h0] at h
      obtain ⟨h1, h2, h3, h4⟩ := num_inv (fun x hx => hb x (List.mem_of_mem_drop hx)) (l := b.drop i) (v := (num (b.drop i)).1) (s := (num (b.drop i)).2.1) (by rw [← h0])
      rw [List.length_drop] at h2
      obtain ⟨xs, e1, e2, e3, e4, e5⟩ := runA_inv hb (k _) _ a j (by omega) h
      refine ⟨.num (num (b.drop i)).1 :: xs, fun x hx => ?_, e2, ?_, ?_, e5⟩
      · rcases List.mem_cons.1 hx with h' | h'
        · rw [h']; exact h1
        · exact e1 x h'
      · rw [cat_cons, List.append_assoc, ← e3]
        show b.drop i = vb _ ++ _
        rw [h3, ← List.drop_drop, List.take_append_drop]
      · rw [e4, cat_cons, List.length_append]
        show _ = i + ((vb (num (b.drop i)).1).length + _)
        rw [h4]; omega
    · rw [if_neg h0] at h; cases h
  | .by n k, i, a, j, hi, h => by
    rw [runA] at h
    by_cases h0 : n ≤ (b.drop i).length
    · rw [if_pos h0] at h
      have h0' := h0
      rw [List.length_drop] at h0'
      obtain ⟨xs, e1, e2, e3, e4, e5⟩ := runA_inv hb (k _) _ a j (by omega) h
      have ht : ((b.drop i).take n).length = n := by rw [List.length_take]; omega
      refine ⟨.raw ((b.drop i).take n) :: xs, fun x hx => ?_, ?_, ?_, ?_, e5⟩
      · rcases List.mem_cons.1 hx with h' | h'
        · rw [h']; trivial
        · exact e1 x h'
      · rw [eat, if_pos ht]; exact e2
      · rw [cat_cons, List.append_assoc, ← e3]
        show b.drop i = (b.drop i).take n ++ _
        rw [← List.drop_drop, List.take_append_drop]
      · rw [e4, cat_cons, List.length_append]
        show _ = i + (((b.drop i).take n).length + _)
        rw [ht]; omega
    · rw [if_neg h0] at h; cases h
def goR (r : (α × Nat) ⊕ Int) (f : α → Nat → Option β) (g : Int → Option β) : Option β := match r with
  | .inl (a, j) => f a j
  | .inr e => g e
theorem goR_bnd {b : List Int} (p : Prs α) (k : α → Prs γ) (i : Nat) (f : γ → Nat → Option β) (g : Int → Option β) : goR (runA b (p.bnd k) i) f g = goR (runA b p i) (fun a j => goR (runA b (k a) j) f g) g := by
  rw [runA_bnd]
  cases runA b p i with
  | inl x => rfl
  | inr e => rfl
theorem runA_le {b : List Int} (hb : ∀ x ∈ b, U8 x) : ∀ (p : Prs α) (i : Nat) (a : α) (j : Nat), i ≤ b.length → runA b p i = .inl (a, j) → j ≤ b.length := fun p i a j hi h => by
  obtain ⟨xs, _, _, _, _, h⟩ := runA_inv hb p i a j hi h
  exact h
theorem goR_cases {b : List Int} (hb : ∀ x ∈ b, U8 x) {p : Prs α} {i : Nat} (hi : i ≤ b.length) {f f2 : α → Nat → Option β} {g g2 : Int → Option β} (h1 : ∀ a j, j ≤ b.length → runA b p i = .inl (a, j) → f a j = f2 a j) (h2 : ∀ e, runA b p i = .inr e → g e = g2 e) : goR (runA b p i) f g = goR (runA b p i) f2 g2 := by
  cases h : runA b p i with
  | inl x => exact h1 x.1 x.2 (runA_le hb p i x.1 x.2 hi h) h
  | inr e => exact h2 e h
def Er (p : Prs α) : Prop := ∀ (b : List Int) (i : Nat) (e : Int), runA b p i = .inr e → e ≠ 0
theorem Er.ret (a : α) : Er (Prs.ret a) := fun b i e h => by cases h
theorem Er.err {e : Int} (h0 : e ≠ 0) : Er (Prs.err e : Prs α) := fun b i e' h => by injection h with h; rw [← h]; exact h0
theorem Er.bnd {p : Prs α} {f : α → Prs β} (hp : Er p) (hf : ∀ a, Er (f a)) : Er (p.bnd f) := fun b i e h => by
  rw [runA_bnd] at h
  cases h1 : runA b p i with
  | inl x => rw [h1] at h; exact hf x.1 b x.2 e h
  | inr e' => rw [h1] at h; injection h with h; rw [← h]; exact hp b i e' h1
theorem Er.nx {k : Nat → Prs α} (hk : ∀ x, Er (k x)) : Er (Prs.nx k) := fun b i e h => by
  rw [runA] at h
  split at h
  · exact hk _ b _ e h
  · rename_i h1; injection h with h; rw [← h]; exact h1
theorem Er.by {n : Nat} {k : List Int → Prs α} (hk : ∀ x, Er (k x)) : Er (Prs.by n k) := fun b i e h => by
  rw [runA] at h
  split at h
  · exact hk _ b _ e h
  · injection h with h; rw [← h]; decide
end
def upP (g : Nat) (e : Int) : Prs Nat := .nx fun x => if x ≤ g then .ret x else .err e
def wholeP : Prs (List Int) := .nx fun n => .by n fun l => .ret l
def blobsP : Nat → List (List Int) → Prs (List (List Int))
  | 0, acc => .ret acc
  | k + 1, acc => wholeP.bnd fun x => if x ∈ acc then .err 8 else blobsP k (acc ++ [x])
def tileN (x y z : Nat) : T3 := (((min x 1048576 : Nat) : Int), ((min y 1048576 : Nat) : Int), ((min z 1048576 : Nat) : Int))
def tileP (last : T3) (first : Bool) : Prs T3 := .nx fun x => .nx fun y => .nx fun z => if rgt (tileN x y z) then (if !first && !ltT last (tileN x y z) then .err 18 else .ret (tileN x y z)) else .err 5
def blobP (all used : Nat) : Prs Nat := .nx fun n => if all ≤ n then .err 5 else if used < n then .err 18 else .ret n
def slotsP (all : Nat) : Nat → Nat → T3 → List (T3 × Int) → Prs (Nat × List (T3 × Int))
  | 0, used, _, acc => .ret (used, acc)
  | k + 1, used, last, acc => (tileP last acc.isEmpty).bnd fun t => (blobP all used).bnd fun n => slotsP all k (max used (n + 1)) t (acc ++ [(t, (n : Int))])
def archP : Prs (List Int × List (List Int) × List (T3 × Int)) := wholeP.bnd fun h => (upP 341 6).bnd fun n => (blobsP n []).bnd fun bl => (upP 341 6).bnd fun m => (slotsP bl.length m 0 (0, 0, 0) []).bnd fun s => if s.1 < bl.length then .err 7 else .ret (h, bl, s.2)
theorem er_up (g : Nat) {e0 : Int} (h0 : e0 ≠ 0) : Er (upP g e0) := Er.nx fun x => by
  split
  · exact Er.ret _
  · exact Er.err h0
theorem er_whole : Er wholeP := Er.nx fun n => Er.by fun l => Er.ret l
theorem er_blobs : ∀ (k : Nat) (acc : List (List Int)), Er (blobsP k acc)
  | 0, acc => Er.ret acc
  | k + 1, acc => er_whole.bnd fun x => by
    split
    · exact Er.err (by decide)
    · exact er_blobs k _
theorem er_tile (last : T3) (first : Bool) : Er (tileP last first) := Er.nx fun x => Er.nx fun y => Er.nx fun z => by
  split
  · split
    · exact Er.err (by decide)
    · exact Er.ret _
  · exact Er.err (by decide)
theorem er_blob (all used : Nat) : Er (blobP all used) := Er.nx fun n => by
  split
  · exact Er.err (by decide)
  · split
    · exact Er.err (by decide)
    · exact Er.ret _
theorem er_slots (all : Nat) : ∀ (k used : Nat) (last : T3) (acc : List (T3 × Int)), Er (slotsP all k used last acc)
  | 0, used, last, acc => Er.ret _
  | k + 1, used, last, acc => (er_tile _ _).bnd fun t => (er_blob _ _).bnd fun n => er_slots all k _ _ _
theorem er_arch : Er archP := er_whole.bnd fun h => (er_up _ (by decide)).bnd fun n => (er_blobs _ _).bnd fun bl => (er_up _ (by decide)).bnd fun m => (er_slots _ _ _ _ _).bnd fun s => by
  split
  · exact Er.err (by decide)
  · exact Er.ret _
open Go.Proofs.Ytnmkonlfnpcoiaa
set_option maxRecDepth 8000
section
variable {S R A : Type}
noncomputable def thenL (body : S → Option (S ⊕ R)) (x : Option (S ⊕ R)) : Option R := x.bind fun y => Sum.elim (loopO body) some y
theorem loopO_then (body : S → Option (S ⊕ R)) (s : S) : loopO body s = thenL body (body s) := by
  cases h : body s with
  | none => rw [loopO_eq, h]; rfl
  | some y =>
    cases y with
    | inl t => rw [loopO_inl h]; rfl
    | inr r => rw [loopO_inr h]; rfl
theorem thenL_ret (body : S → Option (S ⊕ R)) (x : Option R) : thenL body (x.map Sum.inr) = x := by cases x <;> rfl
theorem thenL_bind (body : S → Option (S ⊕ R)) (x : Option A) (F : A → Option (S ⊕ R)) : thenL body (x.bind F) = x.bind fun a => thenL body (F a) := by cases x <;> rfl
theorem thenL_inl (body : S → Option (S ⊕ R)) (s : S) : thenL body (some (.inl s)) = loopO body s := rfl
end
theorem obind_assoc {α β γ : Type} (x : Option α) (f : α → Option β) (g : β → Option γ) : (x.bind f).bind g = x.bind fun a => (f a).bind g := by cases x <;> rfl
theorem bsS_size (l : List Int) : (bsS l).size = l.length := strOfNums_size l
theorem bsS_take (l : List Int) (k : Nat) : (bsS l).extract 0 k = bsS (l.take k) := by
  apply ByteArray.ext
  simp [bsS, strOfNums, ByteArray.data_extract]
theorem eqS_eq (s t : ByteArray) : eqS s t = decide (s = t) := by
  unfold eqS
  rw [ByteArray.toList_eq, ByteArray.toList_eq]
  by_cases h : s = t
  · subst h; simp
  · rw [decide_eq_false h]
    refine beq_eq_false_iff_ne.2 fun e => h ?_
    cases s; cases t
    simpa [← Array.toList_inj] using e
theorem prefix_eq {b : List Int} (hb : ∀ x ∈ b, U8 x) : strings_HasPrefix (bsS b) (⟨#[71, 82, 84, 49]⟩ : ByteArray) = some (decide (b.take 4 = [71, 82, 84, 49])) := by
  unfold strings_HasPrefix internal_stringslite_HasPrefix
  have e1 : (((⟨#[71, 82, 84, 49]⟩ : ByteArray).size : Nat) : Int) = ((4 : Nat) : Int) := rfl
  rw [e1, bsS_size]
  by_cases h : 4 ≤ b.length
  · have ht : decide (((4 : Nat) : Int) ≤ (b.length : Int)) = true := by simp only [decide_eq_true_eq]; omega
    have hc : cutS (bsS b) 0 ((4 : Nat) : Int) = some (bsS (b.take 4)) := by
      unfold cutS
      rw [if_pos (by rw [bsS_size]; omega)]
      simp [bsS_take]
    rw [gdt ht, hc, bind_some', bind_some', bind_some', ht, Bool.true_and, eqS_eq]
    congr 1
    have e2 : (⟨#[71, 82, 84, 49]⟩ : ByteArray) = bsS [71, 82, 84, 49] := rfl
    rw [e2]
    by_cases hq : b.take 4 = [71, 82, 84, 49]
    · rw [hq]; simp
    · rw [decide_eq_false hq, decide_eq_false]
      intro he
      exact hq (bsS_inj (fun x hx => hb x (List.mem_of_mem_take hx)) (fun x hx => by
        simp only [List.mem_cons, List.not_mem_nil, or_false] at hx
        rcases hx with rfl | rfl | rfl | rfl <;> (unfold U8; omega)) he)
  · have ht : decide (((4 : Nat) : Int) ≤ (b.length : Int)) = false := by simp only [decide_eq_false_iff_not]; omega
    rw [gdf ht, bind_some', bind_some', bind_some', ht, Bool.false_and, decide_eq_false]
    intro he
    have := congrArg List.length he
    simp at this
    omega
def nP : Prs Nat := .nx fun x => .ret x
theorem number_bad {r : (List Int) × Int} (h : r.2 ≠ 0) : pack_reader_number r = some (0, r) := by
  unfold pack_reader_number
  rw [show (!decide (r.2 = 0)) = true from by simpa using h, if_pos rfl]
theorem num_le {b : List Int} (hb : ∀ x ∈ b, U8 x) (i : Nat) : (num (b.drop i)).2.1 ≤ b.length - i := by
  have := num_len (l := b.drop i) (fun x hx => hb x (List.mem_of_mem_drop hx))
  rwa [List.length_drop] at this
section
variable {b : List Int} (hb : ∀ x ∈ b, U8 x) (hl : b.length ≤ 1000000)
include hb hl
set_option linter.unusedSectionVars false
theorem num_go {β : Type} {i : Nat} (hi : i ≤ b.length) {F : (Int × ((List Int) × Int)) → Option β} {G : Int → Option β} (hG : ∀ rest e, e ≠ 0 → F (0, (rest, e)) = G e) :
    (pack_reader_number (b.drop i, 0)).bind F = goR (runA b nP i) (fun v j => F ((v : Int), (b.drop j, 0))) G := by
  unfold pack_reader_number nP
  dsimp only
  have hd := num_le hb i
  have hn : runA b (.nx fun x => .ret x) i = if (num (b.drop i)).2.2 = 0 then .inl ((num (b.drop i)).1, i + (num (b.drop i)).2.1) else .inr (num (b.drop i)).2.2 := rfl
  rw [show (!decide ((0 : Int) = 0)) = false from rfl, if_neg (by decide), vRead_eq (fun x hx => hb x (List.mem_of_mem_drop hx)), hn]
  simp only [bind_some']
  unfold numI
  dsimp only
  by_cases h : (num (b.drop i)).2.2 = 0
  · rw [if_pos h, show (!decide ((num (b.drop i)).2.2 = 0)) = false from by simp [h], if_neg (by decide), cut_from (by rw [List.length_drop]; omega), bind_some', List.drop_drop]
    rfl
  · rw [if_neg h, show (!decide ((num (b.drop i)).2.2 = 0)) = true from by simpa using h, if_pos rfl]
    exact hG _ _ h
theorem num_v {i j v : Nat} (h : runA b nP i = .inl (v, j)) : v < 18446744073709551616 := by
  have hn : runA b nP i = if (num (b.drop i)).2.2 = 0 then .inl ((num (b.drop i)).1, i + (num (b.drop i)).2.1) else .inr (num (b.drop i)).2.2 := rfl
  rw [hn] at h
  split at h
  · rename_i h0
    injection h with h
    injection h with h1 h2
    exact (num_inv (fun x hx => hb x (List.mem_of_mem_drop hx)) (l := b.drop i) (v := v) (s := (num (b.drop i)).2.1) (by rw [← h1, ← h0])).1
  · cases h
theorem whole_go {β : Type} {i : Nat} (hi : i ≤ b.length) {F : ((List Int) × ((List Int) × Int)) → Option β} {G : Int → Option β} (hG : ∀ rest e, e ≠ 0 → F ([], (rest, e)) = G e) :
    (pack_reader_whole (b.drop i, 0)).bind F = goR (runA b wholeP i) (fun l j => F (l, (b.drop j, 0))) G := by
  unfold pack_reader_whole
  rw [obind_assoc, num_go hb hl hi (G := G) (fun rest e he => by
    dsimp only
    rw [show (!decide (e = 0)) = true from by simpa using he, if_pos rfl]
    exact hG _ _ he), show wholeP = nP.bnd (fun n => .by n fun l => .ret l) from rfl, goR_bnd]
  refine goR_cases hb hi (fun v j hj hr => ?_) (fun _ _ => rfl)
  have hv := num_v hb hl hr
  dsimp only
  have hn : runA b (.by v fun l => .ret l) j = if v ≤ (b.drop j).length then .inl ((b.drop j).take v, j + v) else .inr 4 := rfl
  rw [show (!decide ((0 : Int) = 0)) = false from rfl, if_neg (by decide), bind_some', hn, show IntKind.u64.wrap ((b.drop j).length : Int) = ((b.drop j).length : Int) from IntWalk.u64_in _ (by rw [List.length_drop]; omega)]
  by_cases h : v ≤ (b.drop j).length
  · rw [if_pos h, show decide (((b.drop j).length : Int) < (v : Int)) = false from by simp only [decide_eq_false_iff_not]; omega, if_neg (by decide), cut_to h, bind_some']
    unfold bytes_Clone
    rw [app_le (by rw [List.length_take]; simp at *; omega), bind_some', bind_some', cut_from h, bind_some', List.drop_drop, List.nil_append]
    rfl
  · rw [if_neg h, show decide (((b.drop j).length : Int) < (v : Int)) = true from by simp only [decide_eq_true_eq]; omega, if_pos rfl]
    exact hG _ _ (by decide)
theorem whole_u8 {i j : Nat} {l : List Int} (h : runA b wholeP i = .inl (l, j)) : (∀ x ∈ l, U8 x) ∧ l.length ≤ b.length := by
  have hn : runA b wholeP i = if (num (b.drop i)).2.2 = 0 then (if (num (b.drop i)).1 ≤ (b.drop (i + (num (b.drop i)).2.1)).length then .inl ((b.drop (i + (num (b.drop i)).2.1)).take (num (b.drop i)).1, i + (num (b.drop i)).2.1 + (num (b.drop i)).1) else .inr 4) else .inr (num (b.drop i)).2.2 := rfl
  rw [hn] at h
  split at h
  · split at h
    · injection h with h
      injection h with h1 h2
      subst h1
      exact ⟨fun x hx => hb x (List.mem_of_mem_drop (List.mem_of_mem_take hx)), by rw [List.length_take, List.length_drop]; omega⟩
    · cases h
  · cases h
omit hb hl in
theorem count_bad {rest : List Int} {e : Int} (h : e ≠ 0) : pack_reader_count (rest, e) = some (0, (rest, e)) := by
  unfold pack_reader_count
  rw [number_bad h, bind_some']
  dsimp only
  rw [show decide (e = 0) = false from by simpa using h, Bool.false_and, bind_some']
  rfl
theorem count_go {β : Type} {i : Nat} (hi : i ≤ b.length) {F : (Int × ((List Int) × Int)) → Option β} {G : Int → Option β} (hG : ∀ v rest e, e ≠ 0 → F (v, (rest, e)) = G e) :
    (pack_reader_count (b.drop i, 0)).bind F = goR (runA b (upP 341 6) i) (fun k j => F ((k : Int), (b.drop j, 0))) G := by
  unfold pack_reader_count
  rw [obind_assoc, num_go hb hl hi (G := G) (fun rest e he => by
    dsimp only
    rw [show decide (e = 0) = false from by simpa using he, Bool.false_and, bind_some']
    exact hG _ _ _ he), show upP 341 6 = nP.bnd (fun x => if x ≤ 341 then .ret x else .err 6) from rfl, goR_bnd]
  refine goR_cases hb hi (fun v j hj hr => ?_) (fun _ _ => rfl)
  dsimp only
  rw [show decide ((0 : Int) = 0) = true from rfl, Bool.true_and, bind_some']
  by_cases h : v ≤ 341
  · rw [if_pos h, show decide ((341 : Int) < (v : Int)) = false from by simp only [decide_eq_false_iff_not]; omega]
    have e1 : mn (v : Int) 341 = (v : Int) := by unfold mn; omega
    show F (IntKind.i64.wrap (mn (v : Int) 341), _) = F _
    rw [e1, IntWalk.i64_in _ (by omega)]
  · rw [if_neg h, show decide ((341 : Int) < (v : Int)) = true from by simp only [decide_eq_true_eq]; omega]
    exact hG _ _ _ (by decide)
omit hb hl in
theorem up_le {g : Nat} {e : Int} {i k j : Nat} (h : runA b (upP g e) i = .inl (k, j)) : k ≤ g := by
  unfold upP at h
  rw [runA] at h
  split at h
  · split at h
    · rename_i h1
      injection h with h
      injection h with h2 _
      omega
    · cases h
  · cases h
omit hb hl in
theorem mn_min (v : Nat) : IntKind.i64.wrap (mn (v : Int) 1048576) = ((min v 1048576 : Nat) : Int) := by
  have : mn (v : Int) 1048576 = ((min v 1048576 : Nat) : Int) := by unfold mn; omega
  rw [this]
  exact IntWalk.i64_in _ (by omega)
theorem tile_go {β : Type} {i : Nat} (hi : i ≤ b.length) (last : T3) (first : Bool) {F : (T3 × ((List Int) × Int)) → Option β} {G : Int → Option β} (hG : ∀ t rest e, e ≠ 0 → F (t, (rest, e)) = G e) :
    (pack_reader_tile (b.drop i, 0) last first).bind F = goR (runA b (tileP last first) i) (fun t j => F (t, (b.drop j, 0))) G := by
  have bad : ∀ (r98 r101 : Int × ((List Int) × Int)) (v : Int) (rest : List Int) (e : Int) (X : Option (T3 × ((List Int) × Int))), e ≠ 0 → (if (!decide (e = 0)) = true then pack_reader_tile_k1 r98 r101 (v, (rest, e)) e else X).bind F = G e := by
    intro r98 r101 v rest e X he
    rw [show (!decide (e = 0)) = true from by simpa using he, if_pos rfl]
    exact hG _ _ _ he
  unfold pack_reader_tile
  rw [obind_assoc, num_go hb hl hi (G := G) (fun rest e he => by
    dsimp only
    rw [number_bad he, bind_some', number_bad he, bind_some']
    exact bad _ _ _ _ _ _ he), show tileP last first = nP.bnd (fun x => nP.bnd fun y => nP.bnd fun z => if rgt (tileN x y z) then (if !first && !ltT last (tileN x y z) then .err 18 else .ret (tileN x y z)) else .err 5) from rfl, goR_bnd]
  refine goR_cases hb hi (fun x j hj hr => ?_) (fun _ _ => rfl)
  dsimp only
  rw [obind_assoc, num_go hb hl hj (G := G) (fun rest e he => by
    dsimp only
    rw [number_bad he, bind_some']
    exact bad _ _ _ _ _ _ he), goR_bnd]
  refine goR_cases hb hj (fun y j2 hj2 hr2 => ?_) (fun _ _ => rfl)
  dsimp only
  rw [obind_assoc, num_go hb hl hj2 (G := G) (fun rest e he => by
    dsimp only
    exact bad _ _ _ _ _ _ he), goR_bnd]
  refine goR_cases hb hj2 (fun z j3 hj3 hr3 => ?_) (fun _ _ => rfl)
  dsimp only
  rw [mn_min, mn_min, mn_min, show (!decide ((0 : Int) = 0)) = false from rfl, if_neg (by decide), wright, bind_some']
  show Option.bind (if (!rgt (tileN x y z)) = true then _ else _) F = _
  have k1 : ∀ e : Int, (pack_reader_tile_k1 ((x : Int), (b.drop j, 0)) ((y : Int), (b.drop j2, 0)) ((z : Int), (b.drop j3, 0)) e).bind F = F (tileN x y z, (b.drop j3, e)) := by
    intro e
    unfold pack_reader_tile_k1
    dsimp only
    rw [mn_min, mn_min, mn_min]; rfl
  by_cases h : rgt (tileN x y z) = true
  · rw [h, if_pos rfl]
    simp only [Bool.not_true, Bool.false_eq_true, if_false]
    rw [show (gd (!first) (window_Less last (((min x 1048576 : Nat) : Int), ((min y 1048576 : Nat) : Int), ((min z 1048576 : Nat) : Int))) false) = gd (!first) (some (ltT last (tileN x y z))) false from by rw [wless]; rfl]
    cases first with
    | true =>
      simp only [Bool.not_true, gd_false, bind_some', Bool.false_and, Bool.false_eq_true, if_false]
      exact k1 0
    | false =>
      simp only [Bool.not_false, gd_true, bind_some', Bool.true_and]
      cases ltT last (tileN x y z) with
      | true =>
        simp only [Bool.not_true, Bool.false_eq_true, if_false]
        exact k1 0
      | false =>
        simp only [Bool.not_false, if_true]
        exact (k1 18).trans (hG _ _ _ (by decide))
  · rw [if_neg h, show (!rgt (tileN x y z)) = true from by simpa using h, if_pos rfl]
    exact (k1 5).trans (hG _ _ _ (by decide))
omit hb hl in
theorem blob_bad {rest : List Int} {e all used : Int} (h : e ≠ 0) : pack_reader_blob (rest, e) all used = some (0, (rest, e)) := by
  unfold pack_reader_blob
  rw [number_bad h, bind_some']
  dsimp only
  rw [show (!decide (e = 0)) = true from by simpa using h, if_pos rfl]
theorem blob_go {β : Type} {i : Nat} (hi : i ≤ b.length) (all used : Nat) (ha : all ≤ 1000000) (hu : used ≤ 1000000) {F : (Int × ((List Int) × Int)) → Option β} {G : Int → Option β} (hG : ∀ v rest e, e ≠ 0 → F (v, (rest, e)) = G e) :
    (pack_reader_blob (b.drop i, 0) (all : Int) (used : Int)).bind F = goR (runA b (blobP all used) i) (fun k j => F ((k : Int), (b.drop j, 0))) G := by
  unfold pack_reader_blob
  rw [obind_assoc, num_go hb hl hi (G := G) (fun rest e he => by
    dsimp only
    rw [show (!decide (e = 0)) = true from by simpa using he, if_pos rfl]
    exact hG _ _ _ he), show blobP all used = nP.bnd (fun n => if all ≤ n then .err 5 else if used < n then .err 18 else .ret n) from rfl, goR_bnd]
  refine goR_cases hb hi (fun v j hj hr => ?_) (fun _ _ => rfl)
  dsimp only
  rw [show (!decide ((0 : Int) = 0)) = false from rfl, if_neg (by decide), show IntKind.u64.wrap (all : Int) = (all : Int) from IntWalk.u64_in _ (by omega)]
  by_cases h : all ≤ v
  · rw [if_pos h, show decide ((all : Int) ≤ (v : Int)) = true from by simp only [decide_eq_true_eq]; omega, if_pos rfl]
    exact hG _ _ _ (by decide)
  · rw [if_neg h, show decide ((all : Int) ≤ (v : Int)) = false from by simp only [decide_eq_false_iff_not]; omega, if_neg (by decide)]
    have e1 : IntKind.i64.wrap (v : Int) = (v : Int) := IntWalk.i64_in _ (by omega)
    rw [e1]
    unfold pack_reader_blob_k1
    dsimp only
    rw [e1]
    by_cases h2 : used < v
    · rw [if_pos h2, show decide ((used : Int) < (v : Int)) = true from by simp only [decide_eq_true_eq]; omega, if_pos rfl]
      exact hG _ _ _ (by decide)
    · rw [if_neg h2, show decide ((used : Int) < (v : Int)) = false from by simp only [decide_eq_false_iff_not]; omega, if_neg (by decide)]
      rfl
end
open Go.Proofs.Ytnmkonlfnpcoiaa
set_option maxRecDepth 8000
abbrev OpR := (((List Int) × (List (List Int)) × (List (T3 × Int))) × Int) ⊕ (Unit × Int)
def badO (e : Int) : Option OpR := some (.inr ((), e))
noncomputable def opB := (Sum.elim (fun (s : (List Int) × (List (List Int)) × (List (ByteArray × Bool)) × (List Int) × Int × Int × Int) => pack_Open_b1_0 s.1 s.2.1 s.2.2.1 s.2.2.2.1 s.2.2.2.2.1 s.2.2.2.2.2.1 s.2.2.2.2.2.2) (fun (s : (List Int) × (List (List Int)) × (List (T3 × Int)) × (List Int) × Int × Int × Int × Int × T3) => pack_Open_b1_1 s.1 s.2.1 s.2.2.1 s.2.2.2.1 s.2.2.2.2.1 s.2.2.2.2.2.1 s.2.2.2.2.2.2.1 s.2.2.2.2.2.2.2.1 s.2.2.2.2.2.2.2.2))
theorem opL (s) : pack_Open_l1 s = loopO opB s := rfl
theorem slots_bad {h : List Int} {bl : List (List Int)} {acc : List (T3 × Int)} {rest : List Int} {e used i n : Int} {last : T3} (he : e ≠ 0) : pack_Open_l1 (.inr (h, bl, acc, rest, e, used, i, n, last)) = badO e := by
  rw [opL]
  refine loopO_inr ?_
  show pack_Open_b1_1 h bl acc rest e used i n last = _
  unfold pack_Open_b1_1
  rw [show decide (e = 0) = false from by simpa using he, Bool.and_false, bind_some']
  rfl
theorem b10_out {h : List Int} {acc : List (List Int)} {met : List (ByteArray × Bool)} {rest : List Int} {e i n : Int} (hc : (decide (i < n) && decide (e = 0)) = false) :
    pack_Open_l1 (.inl (h, acc, met, rest, e, i, n)) = (pack_reader_count (rest, e)).bind fun r => pack_Open_l1 (.inr (h, acc, [], r.2.1, r.2.2, 0, 0, r.1, (0, 0, 0))) := by
  rw [opL, loopO_then]
  have hb : opB (.inl (h, acc, met, rest, e, i, n)) = (pack_reader_count (rest, e)).bind fun r => pack_Open_b1_1 h acc [] r.2.1 r.2.2 0 0 r.1 (0, 0, 0) := by
    show pack_Open_b1_0 h acc met rest e i n = _
    unfold pack_Open_b1_0 pack_Open_b1_1
    rw [hc, bind_some']
    rfl
  rw [hb, thenL_bind]
  congr 1
  funext r
  rw [opL, loopO_then]
  rfl
theorem blobs_bad {h : List Int} {acc : List (List Int)} {met : List (ByteArray × Bool)} {rest : List Int} {e i n : Int} (he : e ≠ 0) : pack_Open_l1 (.inl (h, acc, met, rest, e, i, n)) = badO e := by
  rw [b10_out (by rw [show decide (e = 0) = false from by simpa using he, Bool.and_false]), count_bad he, bind_some']
  exact slots_bad he
def finO (b h : List Int) (bl : List (List Int)) (s : Nat × List (T3 × Int)) (j : Nat) : Option OpR := if s.1 < bl.length then badO 7 else if j < b.length then badO 3 else some (.inl ((h, bl, s.2), 0))
section
variable {b : List Int} (hb : ∀ x ∈ b, U8 x) (hl : b.length ≤ 1000000)
include hb hl
set_option linter.unusedSectionVars false
theorem slots_eq (h : List Int) (bl : List (List Int)) (hbl : bl.length ≤ 1000) (m : Nat) (hm : m ≤ 1000) : ∀ (k : Nat) (acc : List (T3 × Int)) (i used : Nat) (last : T3), acc.length + k = m → i ≤ b.length → used ≤ 1000 →
    pack_Open_l1 (.inr (h, bl, acc, b.drop i, 0, (used : Int), (acc.length : Int), (m : Int), last)) = goR (runA b (slotsP bl.length k used last acc) i) (finO b h bl) badO := by
  intro k
  induction k with
  | zero =>
    intro acc i used last hk hi hu
    rw [opL]
    refine loopO_map (x := finO b h bl (used, acc) i) ?_
    show pack_Open_b1_1 h bl acc (b.drop i) 0 (used : Int) (acc.length : Int) (m : Int) last = _
    unfold pack_Open_b1_1 finO
    rw [show decide ((acc.length : Int) < (m : Int)) = false from by simp only [decide_eq_false_iff_not]; omega, Bool.false_and, bind_some', if_neg (by decide), show (!decide ((0 : Int) = 0)) = false from rfl, if_neg (by decide), List.length_drop]
    by_cases h1 : used < bl.length
    · rw [if_pos h1, show decide ((used : Int) < (bl.length : Int)) = true from by simp only [decide_eq_true_eq]; omega]; rfl
    · rw [if_neg h1, show decide ((used : Int) < (bl.length : Int)) = false from by simp only [decide_eq_false_iff_not]; omega, if_neg (by decide)]
      by_cases h2 : i < b.length
      · rw [if_pos h2, show decide (0 < ((b.length - i : Nat) : Int)) = true from by simp only [decide_eq_true_eq]; omega]; rfl
      · rw [if_neg h2, show decide (0 < ((b.length - i : Nat) : Int)) = false from by simp only [decide_eq_false_iff_not]; omega]; rfl
  | succ k ih =>
    intro acc i used last hk hi hu
    rw [opL, loopO_then]
    have hbd : opB (.inr (h, bl, acc, b.drop i, 0, (used : Int), (acc.length : Int), (m : Int), last)) = (pack_reader_tile (b.drop i, 0) last acc.isEmpty).bind fun r1426 => (pack_reader_blob r1426.2 (bl.length : Int) (used : Int)).bind fun r1431 => (app acc [(r1426.1, r1431.1)]).bind fun x1445 => some (Sum.inl (Sum.inr (h, bl, x1445, r1431.2.1, r1431.2.2, mx (used : Int) (ad r1431.1 1), ad (acc.length : Int) 1, (m : Int), r1426.1))) := by
      show pack_Open_b1_1 h bl acc (b.drop i) 0 (used : Int) (acc.length : Int) (m : Int) last = _
      unfold pack_Open_b1_1
      rw [show decide ((acc.length : Int) < (m : Int)) = true from by simp only [decide_eq_true_eq]; omega, Bool.true_and, show decide ((0 : Int) = 0) = true from rfl, bind_some', if_pos rfl]
      rw [show decide ((acc.length : Int) = 0) = acc.isEmpty from by cases acc <;> simp <;> omega]
    rw [hbd]
    simp only [thenL_bind, thenL_inl]
    have hap : ∀ x : T3 × Int, app acc [x] = some (acc ++ [x]) := fun x => app_le (by simp; omega)
    simp only [hap, bind_some']
    rw [tile_go hb hl hi last acc.isEmpty (G := badO) (fun t rest e he => by
      dsimp only
      rw [blob_bad he, bind_some']
      exact slots_bad he), slotsP, goR_bnd]
    refine goR_cases hb hi (fun t j hj hr => ?_) (fun _ _ => rfl)
    dsimp only
    rw [blob_go hb hl hj bl.length used (by omega) (by omega) (G := badO) (fun v rest e he => slots_bad he), goR_bnd]
    refine goR_cases hb hj (fun n j2 hj2 hr2 => ?_) (fun _ _ => rfl)
    dsimp only
    have hn : n < bl.length := by
      have hq : runA b (blobP bl.length used) j = if (num (b.drop j)).2.2 = 0 then runA b (if bl.length ≤ (num (b.drop j)).1 then .err 5 else if used < (num (b.drop j)).1 then .err 18 else .ret (num (b.drop j)).1) (j + (num (b.drop j)).2.1) else .inr (num (b.drop j)).2.2 := rfl
      rw [hq] at hr2
      split at hr2
      · split at hr2
        · cases hr2
        · split at hr2
          · cases hr2
          · injection hr2 with hr2
            injection hr2 with h1 h2
            omega
      · cases hr2
    have e1 : mx (used : Int) (ad (n : Int) 1) = ((max used (n + 1) : Nat) : Int) := by rw [ad_one (by omega)]; unfold mx; omega
    have e2 : ad (acc.length : Int) 1 = (((acc ++ [(t, (n : Int))]).length : Nat) : Int) := by rw [ad_one (by omega)]; simp
    rw [e1, e2]
    exact ih (acc ++ [(t, (n : Int))]) j2 (max used (n + 1)) t (by simp; omega) hj2 (by omega)
def MetB (D : List (ByteArray × Bool)) (acc : List (List Int)) : Prop := ∀ x : List Int, (∀ y ∈ x, U8 y) → (lkM D (bsS x)).getD false = decide (x ∈ acc)
def behO (b h : List Int) (bl : List (List Int)) (j : Nat) : Option OpR := goR (runA b (upP 341 6) j) (fun m j2 => goR (runA b (slotsP bl.length m 0 (0, 0, 0) []) j2) (finO b h bl) badO) badO
theorem blobs_eq (h : List Int) (n : Nat) (hn : n ≤ 1000) : ∀ (k : Nat) (acc : List (List Int)) (met : List (ByteArray × Bool)) (i : Nat), acc.length + k = n → i ≤ b.length → MetB met acc → (∀ x ∈ acc, ∀ y ∈ x, U8 y) →
    pack_Open_l1 (.inl (h, acc, met, b.drop i, 0, (acc.length : Int), (n : Int))) = goR (runA b (blobsP k acc) i) (behO b h) badO := by
  intro k
  induction k with
  | zero =>
    intro acc met i hk hi hm hu
    rw [b10_out (by rw [show decide ((acc.length : Int) < (n : Int)) = false from by simp only [decide_eq_false_iff_not]; omega, Bool.false_and]), count_go hb hl hi (G := badO) (fun v rest e he => slots_bad he)]
    show _ = behO b h acc i
    unfold behO
    refine goR_cases hb hi (fun m j hj hr => ?_) (fun _ _ => rfl)
    have := slots_eq hb hl h acc (by omega) m (by have := up_le hr; omega) m [] j 0 (0, 0, 0) (by simp) hj (by omega)
    exact this
  | succ k ih =>
    intro acc met i hk hi hm hu
    rw [opL, loopO_then]
    have hbd : opB (.inl (h, acc, met, b.drop i, 0, (acc.length : Int), (n : Int))) = (pack_reader_whole (b.drop i, 0)).bind fun r1324 => if (decide (r1324.2.2 = 0) && (lkM met (bsS r1324.1)).getD false) then (pack_Open_k2 h acc met (acc.length : Int) (n : Int) r1324 8) else (pack_Open_k2 h acc met (acc.length : Int) (n : Int) r1324 r1324.2.2) := by
      show pack_Open_b1_0 h acc met (b.drop i) 0 (acc.length : Int) (n : Int) = _
      unfold pack_Open_b1_0
      rw [show decide ((acc.length : Int) < (n : Int)) = true from by simp only [decide_eq_true_eq]; omega, Bool.true_and, show decide ((0 : Int) = 0) = true from rfl, bind_some', if_pos rfl]
      rfl
    have hap : ∀ x : List Int, app acc [x] = some (acc ++ [x]) := fun x => app_le (by simp; omega)
    have hk2 : ∀ (r : (List Int) × ((List Int) × Int)) (e : Int), thenL opB (pack_Open_k2 h acc met (acc.length : Int) (n : Int) r e) = pack_Open_l1 (.inl (h, acc ++ [r.1], upM met (bsS r.1) true, r.2.1, e, ad (acc.length : Int) 1, (n : Int))) := by
      intro r e
      unfold pack_Open_k2
      rw [bind_some', hap, bind_some']
      rfl
    rw [hbd, thenL_bind]
    rw [whole_go hb hl hi (G := badO) (fun rest e he => by
      dsimp only
      rw [show decide (e = 0) = false from by simpa using he, Bool.false_and, if_neg (by decide), hk2]
      exact blobs_bad he), blobsP, goR_bnd]
    refine goR_cases hb hi (fun x j hj hr => ?_) (fun _ _ => rfl)
    have hx := (whole_u8 hb hl hr).1
    dsimp only
    rw [show decide ((0 : Int) = 0) = true from rfl, Bool.true_and, hm x hx]
    by_cases hc : x ∈ acc
    · rw [decide_eq_true hc, if_pos rfl, if_pos hc, hk2]
      exact blobs_bad (by decide)
    · rw [decide_eq_false hc, if_neg (by decide), if_neg hc, hk2]
      have e2 : ad (acc.length : Int) 1 = (((acc ++ [x]).length : Nat) : Int) := by rw [ad_one (by omega)]; simp
      dsimp only
      rw [e2]
      refine ih (acc ++ [x]) (upM met (bsS x) true) j (by simp; omega) hj (fun y hy => ?_) (fun y hy => ?_)
      · rw [lk_up]
        by_cases hxy : y = x
        · subst hxy; rw [if_pos rfl]; simp
        · rw [if_neg (fun hh => hxy (bsS_inj hy hx hh)), hm y hy]; simp [hxy]
      · rcases List.mem_append.1 hy with hy | hy
        · exact hu y hy
        · rw [List.mem_singleton] at hy; subst hy; exact hx
theorem Open_eq : pack_Open b = if b.take 4 = [71, 82, 84, 49] then goR (runA b archP 4) (fun A j => if j < b.length then badO 3 else some (.inl (A, 0))) badO else badO 17 := by
  unfold pack_Open
  rw [prefix_eq hb, bind_some']
  by_cases hp : b.take 4 = [71, 82, 84, 49]
  · rw [if_pos hp, decide_eq_true hp]
    have h4 : 4 ≤ b.length := by
      have := congrArg List.length hp
      simp at this
      omega
    simp only [Bool.not_true, Bool.false_eq_true, if_false]
    rw [show (4 : Int) = ((4 : Nat) : Int) from rfl, cut_from h4, bind_some', whole_go hb hl h4 (G := badO) (fun rest e he => by
      dsimp only
      rw [count_bad he, bind_some']
      dsimp only
      rw [show decide (e = 0) = false from by simpa using he, Bool.and_false, bind_some', if_neg (by decide), count_bad he, bind_some']
      dsimp only
      rw [show decide (e = 0) = false from by simpa using he, Bool.and_false, bind_some', if_neg (by decide)]
      rfl)]
    unfold archP
    rw [goR_bnd]
    refine goR_cases hb h4 (fun h j hj hr => ?_) (fun _ _ => rfl)
    dsimp only
    have body : ∀ r1500 : Int × ((List Int) × Int), (some ((decide (0 < r1500.1)) && (decide (r1500.2.2 = 0)))).bind (fun x1506 => if x1506 then ((pack_reader_whole r1500.2).bind fun r1509 => (some ((lkM ([] : List (ByteArray × Bool)) (bsS r1509.1)).getD false)).bind fun x1551 => if ((decide (r1509.2.2 = 0)) && x1551) then (pack_Open_k3 (h, (b.drop j, 0)) r1500 r1509 8) else (pack_Open_k3 (h, (b.drop j, 0)) r1500 r1509 r1509.2.2)) else ((pack_reader_count r1500.2).bind fun r1556 => (some ((decide (0 < r1556.1)) && (decide (r1556.2.2 = 0)))).bind fun x1562 => if x1562 then ((pack_reader_tile r1556.2 (0, 0, 0) true).bind fun r1568 => (pack_reader_blob r1568.2 0 0).bind fun r1573 => (app ([] : List (T3 × Int)) [(r1568.1, r1573.1)]).bind fun x1587 => pack_Open_l1 (Sum.inr ((h, (b.drop j, (0 : Int))).1, ([] : List (List Int)), x1587, r1573.2.1, r1573.2.2, mx 0 (ad r1573.1 1), 1, r1556.1, r1568.1))) else (if (!decide (r1556.2.2 = 0)) then (some (Sum.inr ((), r1556.2.2))) else (if (decide (0 < (r1556.2.1.length : Int))) then (some (Sum.inr ((), 3))) else (some (Sum.inl (((h, (b.drop j, (0 : Int))).1, ([] : List (List Int)), ([] : List (T3 × Int))), 0))))))) = pack_Open_l1 (.inl (h, [], [], r1500.2.1, r1500.2.2, 0, r1500.1)) := by
      intro r1500
      rw [opL, loopO_then]
      show _ = thenL opB (pack_Open_b1_0 h [] [] r1500.2.1 r1500.2.2 0 r1500.1)
      unfold pack_Open_b1_0
      rw [bind_some', thenL_bind, bind_some']
      by_cases hc : (decide (0 < r1500.1) && decide (r1500.2.2 = 0)) = true
      · rw [if_pos hc, if_pos hc, thenL_bind]
        congr 1
        funext r1509
        rw [bind_some', thenL_bind, bind_some']
        by_cases hd : (decide (r1509.2.2 = 0) && (lkM ([] : List (ByteArray × Bool)) (bsS r1509.1)).getD false) = true
        · rw [if_pos hd, if_pos hd]; rfl
        · rw [if_neg hd, if_neg hd]; rfl
      · rw [if_neg hc, if_neg hc, thenL_bind]
        congr 1
        funext r1556
        rw [bind_some', thenL_bind, bind_some']
        by_cases hd : (decide (0 < r1556.1) && decide (r1556.2.2 = 0)) = true
        · rw [if_pos hd, if_pos hd]
          simp only [thenL_bind, thenL_inl]
          rfl
        · rw [if_neg hd, if_neg hd]
          by_cases h1 : (!decide (r1556.2.2 = 0)) = true
          · rw [if_pos h1, if_pos h1]; rfl
          · rw [if_neg h1, if_neg h1, show decide (0 < (([] : List (List Int)).length : Int)) = false from rfl]
            simp only [Bool.false_eq_true, if_false]
            by_cases h2 : decide (0 < (r1556.2.1.length : Int)) = true
            · rw [if_pos h2, if_pos h2]; rfl
            · rw [if_neg h2, if_neg h2]; rfl
    simp only [body]
    rw [count_go hb hl hj (G := badO) (fun v rest e he => blobs_bad he), goR_bnd]
    refine goR_cases hb hj (fun n j2 hj2 hr2 => ?_) (fun _ _ => rfl)
    have hn := up_le hr2
    dsimp only
    have hbe := blobs_eq hb hl h n (by omega) n [] [] j2 (by simp) hj2 (fun x hx => by simp [lkM]) (fun x hx => by cases hx)
    refine hbe.trans ?_
    rw [goR_bnd]
    refine goR_cases hb hj2 (fun bl j3 hj3 hr3 => ?_) (fun _ _ => rfl)
    unfold behO
    rw [goR_bnd]
    refine goR_cases hb hj3 (fun m j4 hj4 hr4 => ?_) (fun _ _ => rfl)
    rw [goR_bnd]
    refine goR_cases hb hj4 (fun s j5 hj5 hr5 => ?_) (fun _ _ => rfl)
    unfold finO
    by_cases h7 : s.1 < bl.length
    · rw [if_pos h7, if_pos h7]; rfl
    · rw [if_neg h7, if_neg h7]; rfl
  · rw [if_neg hp, decide_eq_false hp]; rfl
end
open Go.Proofs.Ytnmkonlfnpcoiaa
set_option maxRecDepth 8000
def wT (b : List Int) : List Tok := [.num b.length, .raw b]
def slT (s : T3 × Int) : List Tok := [.num s.1.1.toNat, .num s.1.2.1.toNat, .num s.1.2.2.toNat, .num s.2.toNat]
def toksA (head : List Int) (A : List (List Int) × List (T3 × Int)) : List Tok := wT head ++ (.num A.1.length :: (A.1.flatMap wT ++ (.num A.2.length :: A.2.flatMap slT)))
theorem cat_flat {α : Type} (f : α → List Tok) (g : α → List Int) (h : ∀ x, cat (f x) = g x) (l : List α) : cat (l.flatMap f) = l.flatMap g := by
  induction l with
  | nil => rfl
  | cons x r ih => rw [List.flatMap_cons, cat_app, h, ih, List.flatMap_cons]
theorem cat_wT (b : List Int) : cat (wT b) = wB b := by simp [wT, cat, Tok.b, wB]
theorem cat_slT (s : T3 × Int) : cat (slT s) = slB s := by simp [slT, cat, Tok.b, slB]
theorem bytes_cat (head : List Int) (A : List (List Int) × List (T3 × Int)) : bytesA head A = [71, 82, 84, 49] ++ cat (toksA head A) := by
  unfold bytesA toksA
  rw [cat_app, cat_wT, cat_cons, cat_app, cat_flat wT wB cat_wT, cat_cons, cat_flat slT slB cat_slT]
  simp [Tok.b]
def SlF (all : Nat) : Nat → T3 → Bool → List (T3 × Int) → Prop
  | _, _, _, [] => True
  | used, last, first, s :: r => rgt s.1 = true ∧ (first = true ∨ ltT last s.1 = true) ∧ 0 ≤ s.2 ∧ s.2.toNat < all ∧ s.2.toNat ≤ used ∧ SlF all (max used (s.2.toNat + 1)) s.1 false r
def usF : Nat → List (T3 × Int) → Nat
  | used, [] => used
  | used, s :: r => usF (max used (s.2.toNat + 1)) r
def Ris : T3 → Bool → List Ent → Prop
  | _, _, [] => True
  | last, first, e :: r => rgt e.1 = true ∧ (first = true ∨ ltT last e.1 = true) ∧ Ris e.1 false r
section
variable {head : List Int} {l : List Ent} (h0 : chk [] l = 0) (hl : l.length < 128) (hh : head.length ≤ 100000) (hb : ∀ e ∈ l, e.2.length ≤ 100000)
include h0 hl hh hb
end
end Go.Proofs.Ytnmkonlfnpcoiaa.Pl
