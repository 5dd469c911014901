/-
  Contracts of the document's answer for layer 1: Floor, Round, Power, Sign, May, All.
-/
import Derived.Test.YtefhfbefgeadaaaExact5
namespace Go.Proofs.Ytefhfbefgeadaaa
open Go.RowKit

theorem refdiv (n d : Int) (hn : n < 0) (hd : 1 ≤ d) : (n - n.tmod d).tdiv d = n.tdiv d ∧ (n.tmod d < 0 → (n - (n.tmod d + d)).tdiv d = n / d) := by
  have e := Int.mul_tdiv_add_tmod n d
  refine ⟨?_, fun h => ?_⟩
  · rw [show n - n.tmod d = d * n.tdiv d by omega, Int.mul_tdiv_cancel_left _ (by omega)]
  · rcases tdiv_cases n d hn hd with ⟨_, h2⟩ | ⟨h1, _⟩
    · omega
    · rw [show n - (n.tmod d + d) = d * (n / d) by rw [h1, Int.mul_add, Int.mul_one] at e; omega, Int.mul_tdiv_cancel_left _ (by omega)]

set_option maxHeartbeats 1000000 in
theorem refFloor_any (n d : Int) (w : World) (h1 : 1 ≤ d) (h2 : d ≤ 1152921504606846976) (h3 : -1152921504606846976 ≤ n) (h4 : n ≤ 1152921504606846976) :
    Calls Try.prog 11 #[.int .i64 n, .int .i64 d] w fun e w' => e = .returned (.int .i64 (n / d)) ∧ w = w' := by
  by_cases hn : 0 ≤ n
  · have hm := Int.emod_nonneg n (show d ≠ 0 by omega)
    have hl := Int.emod_lt_of_pos n (show 0 < d by omega)
    have hle : n % d ≤ n := by
      have e := Int.mul_ediv_add_emod n d
      have := Int.mul_nonneg (show 0 ≤ d by omega) (Int.ediv_nonneg hn (show 0 ≤ d by omega))
      omega
    have HD := Lib.hid (show (n - n % d) / d = n / d by have e := Int.mul_ediv_add_emod n d; rw [show n - n % d = d * (n / d) by omega, Int.mul_ediv_cancel_left _ (by omega)])
    go_enter Try.func11, Try.ntmps11
    go_wp2
    go_ret
    exact ⟨ret_int HD.out, rfl⟩
  · have hq := tdiv_cases n d (by omega) (by omega)
    have hb := tdiv_bd n d (by omega) (by omega)
    have hx := refdiv n d (by omega) (by omega)
    have hbm : -d < n.tmod d ∧ n.tmod d ≤ 0 := ⟨Int.lt_tmod_of_pos n (by omega), by omega⟩
    rcases hq with ⟨hq, hr⟩ | ⟨hq, hr⟩
    · have hr' : ¬ n.tmod d < 0 := by omega
      have b1 : -1152921504606846976 ≤ (n - n.tmod d).tdiv d ∧ (n - n.tmod d).tdiv d ≤ 0 := by rw [hx.1]; omega
      have HD := Lib.hid (hx.1.trans hq)
      clear hq hr hx
      have hlt : ¬ 0 ≤ n - n.tmod d ∨ n - n.tmod d = 0 := by omega
      go_enter Try.func11, Try.ntmps11
      go_wp2
      go_ret
      exact ⟨ret_int HD.out, rfl⟩
    · have hn0 : n / d < 0 := Int.ediv_neg_of_neg_of_pos (by omega) (by omega)
      have b1 : -1152921504606846977 ≤ (n - (n.tmod d + d)).tdiv d ∧ (n - (n.tmod d + d)).tdiv d ≤ 0 := by rw [hx.2 hr]; omega
      have HD := Lib.hid (hx.2 hr)
      clear hq hx
      go_enter Try.func11, Try.ntmps11
      go_wp2
      go_ret
      exact ⟨ret_int HD.out, rfl⟩

set_option maxHeartbeats 1000000 in
theorem refRound_any (n d : Int) (w : World) (h1 : 1 ≤ d) (h2 : d ≤ 1152921504606846976) (h3 : -1152921504606846976 ≤ n) (h4 : n ≤ 1152921504606846976) :
    Calls Try.prog 12 #[.int .i64 n, .int .i64 d] w fun e w' => e = .returned (.int .i64 (roundZ n d)) ∧ w = w' := by
  have h : quoB n d = true := by simp [quoB, inB]; omega
  have hb := ediv_bd n d h1 h3 h4
  have HR := Lib.hid (show roundZ n d = if d - (n - n / d * d) ≤ n - n / d * d then n / d + 1 else n / d by simp [roundZ, h])
  clear h
  rcases Int.lt_trichotomy (n - n / d * d) (d - (n - n / d * d)) with h0 | h0 | h0
  · have hne : (n - n / d * d == d - (n - n / d * d)) = false := by rw [beq_eq_false_iff_ne]; omega
    go_enter Try.func12, Try.ntmps12
    go_wp2_with (go_at_call 11; refine (refFloor_any _ _ _ h1 h2 h3 h4).mono ?_; rintro e w' ⟨rfl, rfl⟩)
    go_ret
    exact ⟨ret_int (by rw [HR.out, if_neg (by omega)]), rfl⟩
  · have hne : (n - n / d * d == d - (n - n / d * d)) = true := by rw [beq_iff_eq]; omega
    have H0 := Lib.hid h0
    have h0' : ¬ d - (n - n / d * d) < n - n / d * d := by omega
    clear h0
    go_enter Try.func12, Try.ntmps12
    go_wp2_with (go_at_call 11; refine (refFloor_any _ _ _ h1 h2 h3 h4).mono ?_; rintro e w' ⟨rfl, rfl⟩)
    go_ret
    exact ⟨ret_int (by rw [HR.out, if_pos (by have := H0.out; omega)]), rfl⟩
  · go_enter Try.func12, Try.ntmps12
    go_wp2_with (go_at_call 11; refine (refFloor_any _ _ _ h1 h2 h3 h4).mono ?_; rintro e w' ⟨rfl, rfl⟩)
    go_ret
    exact ⟨ret_int (by rw [HR.out, if_pos (by omega)]), rfl⟩

set_option maxHeartbeats 1000000 in
theorem refPower_any (s : Int) (w : World) (h0 : 0 ≤ s) (h1 : s ≤ 20) :
    Calls Try.prog 14 #[.int .i64 s] w fun e w' => e = .returned (.int .i64 (2 ^ s.toNat)) ∧ w = w' := by
  obtain ⟨m, rfl⟩ := Int.eq_ofNat_of_zero_le h0
  rw [Int.toNat_natCast]
  go_enter Try.func14, Try.ntmps14
  go_wp2
  go_loop [3, 4] (fun p i => ∃ k : Nat, k ≤ m ∧ i = .int .i64 k ∧ p = .int .i64 (2 ^ k)) (fun _ i => m - (intOf i).toNat)
  case atStart => exact ⟨0, Nat.zero_le _, rfl, rfl⟩
  case round =>
    obtain ⟨k, hk, rfl, rfl⟩ := hrel
    have hp := pow20 (k : Int) (by omega)
    rw [Int.toNat_natCast] at hp
    have HP := Lib.hid (show (2 : Int) ^ (k + 1) = 2 * 2 ^ k by rw [Int.pow_succ]; omega)
    by_cases hlt : k < m
    · go_wp2
      go_round
      case rel => exact ⟨k + 1, by omega, by go_num, by rw [HP.out]⟩
      case measure => simp [intOf]; omega
    · go_wp2
      go_ret
      obtain rfl : k = m := by omega
      exact ⟨rfl, rfl⟩
end Go.Proofs.Ytefhfbefgeadaaa
