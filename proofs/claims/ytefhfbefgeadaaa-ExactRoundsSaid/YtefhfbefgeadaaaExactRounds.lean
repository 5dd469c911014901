/-
  The law ExactRounds: whatever the input, the call returns true, and nothing that was there turns. Conditions: none.
-/
import Derived.Test.YtefhfbefgeadaaaKnown01
import Derived.Test.YtefhfbefgeadaaaRef1
import Derived.Deep.DeepCutAuto
namespace Go.Proofs.Ytefhfbefgeadaaa
open Go.RowKit

theorem quoB_true {n d : Int} (h : quoB n d = true) : 1 ≤ d ∧ d ≤ 1152921504606846976 ∧ -1152921504606846976 ≤ n ∧ n ≤ 1152921504606846976 := by simp [quoB, inB] at h; omega
theorem shiftB_true {v s : Int} (h : shiftB v s = true) : 0 ≤ s ∧ s ≤ 20 ∧ -16777216 ≤ v ∧ v ≤ 16777216 := by simp [shiftB, inB] at h; omega
theorem shift_round {v s : Int} (h : shiftB v s = true) : shiftZ v s = roundZ v (2 ^ s.toNat) := by
  have hb := shiftB_true h
  have hp := pow20 s hb.2.1
  have hp2 : (2 : Int) ^ s.toNat = 1 ∨ (2 : Int) ^ s.toNat / 2 * 2 = (2 : Int) ^ s.toNat := by
    rcases hk : s.toNat with _ | k
    · left; rfl
    · right; rw [Int.pow_succ, Int.mul_ediv_cancel _ (by omega)]
  have hq : quoB v (2 ^ s.toNat) = true := by simp [quoB, inB]; omega
  simp only [shiftZ, h, roundZ, hq, if_true]
  generalize (2 : Int) ^ s.toNat = p at *
  have e := Int.mul_ediv_add_emod v p
  have hm := Int.emod_nonneg v (show p ≠ 0 by omega)
  have hl := Int.emod_lt_of_pos v (show 0 < p by omega)
  have key : (v + p / 2) / p = v / p + (v % p + p / 2) / p := by
    have : v + p / 2 = (v % p + p / 2) + p * (v / p) := by omega
    rw [this, Int.add_mul_ediv_left _ _ (by omega)]
    omega
  rw [key, show v - v / p * p = v % p by rw [Int.mul_comm]; omega]
  by_cases hc : p - v % p ≤ v % p
  · rw [if_pos hc]
    have : (v % p + p / 2) / p = 1 := by
      rw [Int.ediv_eq_iff_of_pos (by omega)]; omega
    omega
  · rw [if_neg hc]
    have : (v % p + p / 2) / p = 0 := Int.ediv_eq_zero_of_lt (by omega) (by omega)
    omega

set_option maxRecDepth 100000 in
set_option maxHeartbeats 4000000 in
theorem exactRounds_core (n d v s : Int) (w : World) :
    Calls Try.prog 3 #[.int .i64 n, .int .i64 d, .int .i64 v, .int .i64 s] w fun e w' => e = .returned (.bool true) ∧ Below w.heap.size w w' := by
  go_enter Try.func3, Try.ntmps3
  go_upto_region 3 with (first | (go_at_call 9; refine (floor_any _ _ _).mono ?_; rintro e w' ⟨rfl, rfl⟩) | (go_at_call 10; refine (round_any _ _ _).mono ?_; rintro e w' ⟨rfl, rfl⟩))
  go_cut [13] (fun x wx => x = .bool (quoB n d) ∧ wx = w)
  case first =>
    rcases (show (d < 1) ∨ (1 ≤ d ∧ ¬ d ≤ 1152921504606846976) ∨ (1 ≤ d ∧ d ≤ 1152921504606846976 ∧ ¬ -1152921504606846976 ≤ n) ∨ (1 ≤ d ∧ d ≤ 1152921504606846976 ∧ -1152921504606846976 ≤ n ∧ ¬ n ≤ 1152921504606846976) ∨ (1 ≤ d ∧ d ≤ 1152921504606846976 ∧ -1152921504606846976 ≤ n ∧ n ≤ 1152921504606846976) by omega) with h | h | h | h | h
    all_goals
      first
        | (have HQ := Lib.hid (show quoB n d = false by apply Bool.eq_false_iff.2; intro hq; have := quoB_true hq; omega))
        | (have HQ := Lib.hid (show quoB n d = true by simp only [quoB, inB, Bool.and_eq_true, decide_eq_true_eq]; omega))
      go_wp2
      go_meet
      exact ⟨by rw [HQ.out], rfl⟩
  case rest =>
    obtain ⟨rfl, rfl⟩ := hcut
    generalize hq : quoB n d = q at *
    have HQ := Lib.hid hq
    cases q
    · have HF := Lib.hid (show floorZ n d = 0 by simp only [floorZ, hq]; rfl)
      have HR := Lib.hid (show roundZ n d = 0 by simp only [roundZ, hq]; rfl)
      clear hq
      rw [HF.out, HR.out]
      go_upto_region 7 with (go_at_call 13; refine (shift_any _ _ _).mono ?_; rintro e w' ⟨rfl, rfl⟩)
      go_cut [16] (fun x wx => x = .bool (shiftB v s) ∧ wx = wc)
      case first =>
        rcases (show (¬ 0 ≤ s) ∨ (0 ≤ s ∧ ¬ s ≤ 20) ∨ (0 ≤ s ∧ s ≤ 20 ∧ ¬ -16777216 ≤ v) ∨ (0 ≤ s ∧ s ≤ 20 ∧ -16777216 ≤ v ∧ ¬ v ≤ 16777216) ∨ (0 ≤ s ∧ s ≤ 20 ∧ -16777216 ≤ v ∧ v ≤ 16777216) by omega) with h | h | h | h | h
        all_goals
          first
            | (have HS := Lib.hid (show shiftB v s = false by apply Bool.eq_false_iff.2; intro hq; have := shiftB_true hq; omega))
            | (have HS := Lib.hid (show shiftB v s = true by simp only [shiftB, inB, Bool.and_eq_true, decide_eq_true_eq]; omega))
          go_wp2
          go_meet
          exact ⟨by rw [HS.out], rfl⟩
      case rest =>
        obtain ⟨rfl, hwc⟩ := hcut
        subst hwc
        generalize hs : shiftB v s = b at *
        have HS := Lib.hid hs
        cases b
        · have HZ := Lib.hid (show shiftZ v s = 0 by simp [shiftZ, hs])
          clear hs
          go_wp2_with (go_at_call 15; refine (known_any _).mono ?_; rintro e w' ⟨rfl, hbk⟩)
          rw [HZ.out]
          go_wp2
          go_ret
          exact ⟨rfl, hbk⟩
        · have hbs := shiftB_true hs
          have HZ := Lib.hid (shift_round hs)
          have hp := pow20 s hbs.2.1
          clear hs
          go_wp2_with (first | (go_at_call 15; refine (known_any _).mono ?_; rintro e w' ⟨rfl, hbk⟩) | (go_at_call 14; refine (refPower_any _ _ hbs.1 hbs.2.1).mono ?_; rintro e w' ⟨rfl, rfl⟩) | (go_at_call 12; refine (refRound_any _ _ _ hp.1 (by omega) (by omega) (by omega)).mono ?_; rintro e w' ⟨rfl, rfl⟩; rw [← HZ.out]))
          go_ret
          exact ⟨rfl, hbk⟩
    · have hb := quoB_true hq
      have HF := Lib.hid (show floorZ n d = n / d by simp only [floorZ, hq, if_true])
      clear hq
      go_upto_region 7 with (first | (go_at_call 11; refine (refFloor_any _ _ _ hb.1 hb.2.1 hb.2.2.1 hb.2.2.2).mono ?_; rintro e w' ⟨rfl, rfl⟩; rw [HF.out]) | (go_at_call 12; refine (refRound_any _ _ _ hb.1 hb.2.1 hb.2.2.1 hb.2.2.2).mono ?_; rintro e w' ⟨rfl, rfl⟩) | (go_at_call 13; refine (shift_any _ _ _).mono ?_; rintro e w' ⟨rfl, rfl⟩))
      go_cut [16] (fun x wx => x = .bool (shiftB v s) ∧ wx = wc)
      case first =>
        rcases (show (¬ 0 ≤ s) ∨ (0 ≤ s ∧ ¬ s ≤ 20) ∨ (0 ≤ s ∧ s ≤ 20 ∧ ¬ -16777216 ≤ v) ∨ (0 ≤ s ∧ s ≤ 20 ∧ -16777216 ≤ v ∧ ¬ v ≤ 16777216) ∨ (0 ≤ s ∧ s ≤ 20 ∧ -16777216 ≤ v ∧ v ≤ 16777216) by omega) with h | h | h | h | h
        all_goals
          first
            | (have HS := Lib.hid (show shiftB v s = false by apply Bool.eq_false_iff.2; intro hq; have := shiftB_true hq; omega))
            | (have HS := Lib.hid (show shiftB v s = true by simp only [shiftB, inB, Bool.and_eq_true, decide_eq_true_eq]; omega))
          go_wp2
          go_meet
          exact ⟨by rw [HS.out], rfl⟩
      case rest =>
        obtain ⟨rfl, hwc⟩ := hcut
        subst hwc
        generalize hs : shiftB v s = b at *
        have HS := Lib.hid hs
        cases b
        · have HZ := Lib.hid (show shiftZ v s = 0 by simp [shiftZ, hs])
          clear hs
          go_wp2_with (go_at_call 15; refine (known_any _).mono ?_; rintro e w' ⟨rfl, hbk⟩)
          rw [HZ.out]
          go_wp2
          go_ret
          exact ⟨rfl, hbk⟩
        · have hbs := shiftB_true hs
          have HZ := Lib.hid (shift_round hs)
          have hp := pow20 s hbs.2.1
          clear hs
          go_wp2_with (first | (go_at_call 15; refine (known_any _).mono ?_; rintro e w' ⟨rfl, hbk⟩) | (go_at_call 14; refine (refPower_any _ _ hbs.1 hbs.2.1).mono ?_; rintro e w' ⟨rfl, rfl⟩) | (go_at_call 12; refine (refRound_any _ _ _ hp.1 (by omega) (by omega) (by omega)).mono ?_; rintro e w' ⟨rfl, rfl⟩; rw [← HZ.out]))
          go_ret
          exact ⟨rfl, hbk⟩

theorem exactRounds_walk (n : Int) (_ : -9223372036854775808 ≤ n ∧ n ≤ 9223372036854775807) (d : Int) (_ : -9223372036854775808 ≤ d ∧ d ≤ 9223372036854775807) (v : Int) (_ : -9223372036854775808 ≤ v ∧ v ≤ 9223372036854775807) (s : Int) (_ : -9223372036854775808 ≤ s ∧ s ≤ 9223372036854775807) (w : World) :
    Calls Try.prog 3 #[.int .i64 n, .int .i64 d, .int .i64 v, .int .i64 s] w fun e w' => e = .returned (.bool true) ∧ Below w.heap.size w w' := exactRounds_core n d v s w
end Go.Proofs.Ytefhfbefgeadaaa
