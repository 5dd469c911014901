/-
  Contracts of package exact: Floor, Round, Shift.
-/
import Derived.Test.YtefhfbefgeadaaaExact1
import Derived.WalkMore
namespace Go.Proofs.Ytefhfbefgeadaaa
open Go.RowKit

/-- What Floor and Round take. -/
def quoB (n d : Int) : Bool := inB d 1 1152921504606846976 && inB n (-1152921504606846976) 1152921504606846976
def floorZ (n d : Int) : Int := if quoB n d then n / d else 0
def roundZ (n d : Int) : Int := if quoB n d then (if d - (n - n / d * d) ≤ n - n / d * d then n / d + 1 else n / d) else 0
def shiftB (v s : Int) : Bool := inB s 0 20 && inB v (-16777216) 16777216
def shiftZ (v s : Int) : Int := if shiftB v s then (v + 2 ^ s.toNat / 2) / 2 ^ s.toNat else 0

theorem ret_ib {k : IntKind} {a b : Int} {c d : Bool} (h : a = b) (h' : c = d) : Ending.returned (.tuple #[.int k a, .bool c]) = .returned (.tuple #[.int k b, .bool d]) := by rw [h, h']

theorem tdiv_cases (n d : Int) (hn : n < 0) (hd : 1 ≤ d) : (n.tdiv d = n / d ∧ n.tmod d = 0) ∨ (n.tdiv d = n / d + 1 ∧ n.tmod d < 0) := by
  rw [Int.tdiv_eq_ediv, Int.tmod_eq_emod, Int.sign_eq_one_of_pos (by omega)]
  have hm := Int.emod_nonneg n (show d ≠ 0 by omega)
  have hl := Int.emod_lt_of_pos n (show 0 < d by omega)
  have hna : (d.natAbs : Int) = d := by omega
  by_cases h : d ∣ n
  · left; simp [h, Int.emod_eq_zero_of_dvd h]
  · right
    rw [if_neg (by omega), if_neg (by omega)]
    omega
theorem tdiv_bd (n d : Int) (hn : n < 0) (hd : 1 ≤ d) : n ≤ n.tdiv d ∧ n.tdiv d ≤ 0 := by
  have h := tdiv_cases n d hn hd
  have e := Int.mul_ediv_add_emod n d
  have hm := Int.emod_nonneg n (show d ≠ 0 by omega)
  have hl := Int.emod_lt_of_pos n (show 0 < d by omega)
  have h1 : n / d < 0 := Int.ediv_neg_of_neg_of_pos hn (by omega)
  have h2 : n ≤ n / d := by
    have := Int.mul_nonneg (show 0 ≤ d - 1 by omega) (show 0 ≤ - (n / d) - 1 by omega)
    have e2 : (d - 1) * (-(n / d) - 1) = n / d - d * (n / d) - d + 1 := by rw [Int.sub_mul, Int.mul_sub, Int.mul_neg]; omega
    omega
  omega

set_option maxHeartbeats 1000000 in
theorem floor_any (n d : Int) (w : World) :
    Calls Try.prog 9 #[.int .i64 n, .int .i64 d] w fun e w' => e = .returned (.tuple #[.int .i64 (floorZ n d), .bool (quoB n d)]) ∧ w = w' := by
  by_cases h1 : inB d 1 1152921504606846976 = true
  · by_cases h2 : inB n (-1152921504606846976) 1152921504606846976 = true
    · have HQ := Lib.hid (show quoB n d = true by simp [quoB, h1, h2])
      have HF := Lib.hid (show floorZ n d = n / d by simp [floorZ, quoB, h1, h2])
      have b1 : 1 ≤ d ∧ d ≤ 1152921504606846976 := by simpa [inB] using h1
      have b2 : -1152921504606846976 ≤ n ∧ n ≤ 1152921504606846976 := by simpa [inB] using h2
      have H1 := Lib.hid h1
      have H2 := Lib.hid h2
      clear h1 h2
      by_cases hn : 0 ≤ n
      · have hm := Int.emod_nonneg n (show d ≠ 0 by omega)
        go_enter Try.func9, Try.ntmps9
        go_wp2
        refine wp_scope_fwd 0 rfl ?_
        go_wp2_with (go_at_call 32; refine (within_any _ _ _ _).mono ?_; rintro e w' ⟨rfl, rfl⟩; (first | rw [H1.out] | rw [H2.out]))
        go_step3
        refine ⟨rfl, ?_⟩
        go_wp2
        rw [Exit.noGoto_ret]
        go_ret2
        exact ⟨ret_ib HF.out.symm HQ.out.symm, rfl⟩
      · have hq := tdiv_cases n d (by omega) (by omega)
        have hb := tdiv_bd n d (by omega) (by omega)
        rcases hq with ⟨hq, hr⟩ | ⟨hq, hr⟩
        · have HD := Lib.hid hq
          have hr' : 0 ≤ n.tmod d := by omega
          clear hq hr
          go_enter Try.func9, Try.ntmps9
          go_wp2
          refine wp_scope_fwd 0 rfl ?_
          go_wp2_with (go_at_call 32; refine (within_any _ _ _ _).mono ?_; rintro e w' ⟨rfl, rfl⟩; (first | rw [H1.out] | rw [H2.out]))
          go_step3
          refine ⟨rfl, ?_⟩
          go_wp2
          rw [Exit.noGoto_ret]
          go_ret2
          exact ⟨ret_ib (by rw [HF.out, HD.out]) HQ.out.symm, rfl⟩
        · have HD := Lib.hid hq
          clear hq
          go_enter Try.func9, Try.ntmps9
          go_wp2
          refine wp_scope_fwd 0 rfl ?_
          go_wp2_with (go_at_call 32; refine (within_any _ _ _ _).mono ?_; rintro e w' ⟨rfl, rfl⟩; (first | rw [H1.out] | rw [H2.out]))
          go_step3
          go_wp2
          rw [jump_ret]
          go_ret2
          exact ⟨ret_ib (by rw [HF.out, HD.out]; omega) HQ.out.symm, rfl⟩
    · have HQ := Lib.hid (show quoB n d = false by simp [quoB, h1, h2])
      have HF := Lib.hid (show floorZ n d = 0 by simp [floorZ, quoB, h1, h2])
      have H1 := Lib.hid h1
      have H2 := Lib.hid (Bool.eq_false_iff.2 h2)
      clear h1 h2
      go_enter Try.func9, Try.ntmps9
      go_wp2
      refine wp_scope_fwd 0 rfl ?_
      go_wp2_with (go_at_call 32; refine (within_any _ _ _ _).mono ?_; rintro e w' ⟨rfl, rfl⟩; (first | rw [H1.out] | rw [H2.out]))
      rw [jump_ret]
      go_ret2
      exact ⟨ret_ib HF.out.symm HQ.out.symm, rfl⟩
  · have HQ := Lib.hid (show quoB n d = false by simp [quoB, h1])
    have HF := Lib.hid (show floorZ n d = 0 by simp [floorZ, quoB, h1])
    have H1 := Lib.hid (Bool.eq_false_iff.2 h1)
    clear h1
    go_enter Try.func9, Try.ntmps9
    go_wp2
    refine wp_scope_fwd 0 rfl ?_
    go_wp2_with (go_at_call 32; refine (within_any _ _ _ _).mono ?_; rintro e w' ⟨rfl, rfl⟩; rw [H1.out])
    rw [jump_ret]
    go_ret2
    exact ⟨ret_ib HF.out.symm HQ.out.symm, rfl⟩

theorem ediv_bd (n d : Int) (hd : 1 ≤ d) (h1 : -1152921504606846976 ≤ n) (h2 : n ≤ 1152921504606846976) :
    0 ≤ n - n / d * d ∧ n - n / d * d < d ∧ -1152921504606846976 ≤ n / d ∧ n / d ≤ 1152921504606846976 ∧ -2305843009213693952 ≤ n / d * d ∧ n / d * d ≤ 1152921504606846976 ∨ 1152921504606846976 < d := by
  by_cases hbig : d ≤ 1152921504606846976
  · left
    have e := Int.mul_ediv_add_emod n d
    rw [Int.mul_comm] at e
    have hm := Int.emod_nonneg n (show d ≠ 0 by omega)
    have hl := Int.emod_lt_of_pos n (show 0 < d by omega)
    have l1 : -1152921504606846976 ≤ n / d := by
      rw [Int.le_ediv_iff_mul_le (by omega)]
      have := Int.mul_le_mul_of_nonneg_left hd (show (0:Int) ≤ 1152921504606846976 by omega)
      omega
    have l2 : n / d ≤ 1152921504606846976 := Int.ediv_le_of_le_mul (by omega) (by
      have := Int.mul_le_mul_of_nonneg_left hd (show (0:Int) ≤ 1152921504606846976 by omega)
      omega)
    omega
  · right; omega

set_option maxHeartbeats 1000000 in
theorem round_any (n d : Int) (w : World) :
    Calls Try.prog 10 #[.int .i64 n, .int .i64 d] w fun e w' => e = .returned (.tuple #[.int .i64 (roundZ n d), .bool (quoB n d)]) ∧ w = w' := by
  by_cases h : quoB n d = true
  · have b1 : (1 ≤ d ∧ d ≤ 1152921504606846976) ∧ -1152921504606846976 ≤ n ∧ n ≤ 1152921504606846976 := by simpa [quoB, inB] using h
    have hb := ediv_bd n d (by omega) (by omega) (by omega)
    have HQ := Lib.hid h
    have HF := Lib.hid (show floorZ n d = n / d by simp [floorZ, h])
    have HR := Lib.hid (show roundZ n d = if d - (n - n / d * d) ≤ n - n / d * d then n / d + 1 else n / d by simp [roundZ, h])
    clear h
    by_cases hlt : d - (n - n / d * d) ≤ n - n / d * d
    all_goals
      go_enter Try.func10, Try.ntmps10
      go_wp2_with (go_at_call 9; refine (floor_any _ _ _).mono ?_; rintro e w' ⟨rfl, rfl⟩; rw [HQ.out, HF.out])
      go_ret2
      exact ⟨ret_ib (by rw [HR.out]; split <;> omega) HQ.out.symm, rfl⟩
  · have HQ := Lib.hid (Bool.eq_false_iff.2 h)
    have HR := Lib.hid (show roundZ n d = 0 by simp [roundZ, h])
    clear h
    go_enter Try.func10, Try.ntmps10
    go_wp2_with (go_at_call 9; refine (floor_any _ _ _).mono ?_; rintro e w' ⟨rfl, rfl⟩; rw [HQ.out])
    go_ret2
    exact ⟨ret_ib (by rw [HR.out]) HQ.out.symm, rfl⟩

theorem pow20 (s : Int) (h1 : s ≤ 20) : (1 : Int) ≤ 2 ^ s.toNat ∧ (2 : Int) ^ s.toNat ≤ 1048576 := by
  have h : s.toNat ≤ 20 := by omega
  generalize s.toNat = k at *
  have h1 : 2 ^ k ≤ 2 ^ 20 := Nat.pow_le_pow_right (by omega) h
  have h2 : 0 < 2 ^ k := Nat.pow_pos (by omega)
  have e : (2 : Int) ^ k = ((2 ^ k : Nat) : Int) := by simp
  rw [e]
  omega
theorem shift_wraps (v s : Int) (h0 : 0 ≤ s) (h1 : s ≤ 20) (h2 : -16777216 ≤ v) (h3 : v ≤ 16777216) :
    wrap64 (v + wrap64 (2 ^ s.toNat) / 2) / 2 ^ s.toNat = (v + 2 ^ s.toNat / 2) / 2 ^ s.toNat := by
  have hp := pow20 s h1
  generalize (2 : Int) ^ s.toNat = p at *
  rw [IntWalk.wrap64_in p ⟨by omega, by omega⟩, IntWalk.wrap64_in (v + p / 2) ⟨by omega, by omega⟩]

set_option maxHeartbeats 1000000 in
theorem shift_any (v s : Int) (w : World) :
    Calls Try.prog 13 #[.int .i64 v, .int .i64 s] w fun e w' => e = .returned (.tuple #[.int .i64 (shiftZ v s), .bool (shiftB v s)]) ∧ w = w' := by
  by_cases h1 : inB s 0 20 = true
  · by_cases h2 : inB v (-16777216) 16777216 = true
    · have b1 : 0 ≤ s ∧ s ≤ 20 := by simpa [inB] using h1
      have b2 : -16777216 ≤ v ∧ v ≤ 16777216 := by simpa [inB] using h2
      have HQ := Lib.hid (show shiftB v s = true by simp [shiftB, h1, h2])
      have HF := Lib.hid (show shiftZ v s = (v + 2 ^ s.toNat / 2) / 2 ^ s.toNat by simp [shiftZ, shiftB, h1, h2])
      have H1 := Lib.hid h1
      have H2 := Lib.hid h2
      clear h1 h2
      go_enter Try.func13, Try.ntmps13
      go_wp2_with (go_at_call 32; refine (within_any _ _ _ _).mono ?_; rintro e w' ⟨rfl, rfl⟩; (first | rw [H1.out] | rw [H2.out]))
      go_ret2
      exact ⟨ret_ib (by rw [HF.out]; exact shift_wraps v s b1.1 b1.2 b2.1 b2.2) HQ.out.symm, rfl⟩
    · have HQ := Lib.hid (show shiftB v s = false by simp [shiftB, h1, h2])
      have HF := Lib.hid (show shiftZ v s = 0 by simp [shiftZ, shiftB, h1, h2])
      have H1 := Lib.hid h1
      have H2 := Lib.hid (Bool.eq_false_iff.2 h2)
      clear h1 h2
      go_enter Try.func13, Try.ntmps13
      go_wp2_with (go_at_call 32; refine (within_any _ _ _ _).mono ?_; rintro e w' ⟨rfl, rfl⟩; (first | rw [H1.out] | rw [H2.out]))
      go_ret2
      exact ⟨ret_ib HF.out.symm HQ.out.symm, rfl⟩
  · have HQ := Lib.hid (show shiftB v s = false by simp [shiftB, h1])
    have HF := Lib.hid (show shiftZ v s = 0 by simp [shiftZ, shiftB, h1])
    have H1 := Lib.hid (Bool.eq_false_iff.2 h1)
    clear h1
    go_enter Try.func13, Try.ntmps13
    go_wp2_with (go_at_call 32; refine (within_any _ _ _ _).mono ?_; rintro e w' ⟨rfl, rfl⟩; rw [H1.out])
    go_ret2
    exact ⟨ret_ib HF.out.symm HQ.out.symm, rfl⟩
end Go.Proofs.Ytefhfbefgeadaaa
