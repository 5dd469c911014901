/-
  Contracts of the document's answer for layer 1: May, All, Of, Cross, Sign, Less.
-/
import Derived.Test.YtefhfbefgeadaaaExact2
namespace Go.Proofs.Ytefhfbefgeadaaa
open Go.RowKit

set_option maxHeartbeats 1000000 in
/-- Of, with the very world: its parameter's box alone is new. -/
theorem of_exact (x y : Int) (w : World) :
    Calls Try.prog 16 #[.agg #[.int .i64 x, .int .i64 y]] w fun e w' => e = .returned (.agg #[.int .i64 x, .int .i64 y]) ∧ (w.alloc (.cells #[.int .i64 x, .int .i64 y] 29)).alloc (.cells #[.int .i64 x, .int .i64 y] 30) = w' := by
  go_enter Try.func16, Try.ntmps16
  go_wp2
  exact bodyPost_ret (v := .agg #[.int .i64 x, .int .i64 y]) (by simp [results, Try.results16, go_sem]) rfl ⟨rfl, rfl⟩
set_option maxHeartbeats 1000000 in
theorem of_any (x y : Int) (w : World) :
    Calls Try.prog 16 #[.agg #[.int .i64 x, .int .i64 y]] w fun e w' => e = .returned (.agg #[.int .i64 x, .int .i64 y]) ∧ Below w.heap.size w w' := by
  go_enter Try.func16, Try.ntmps16
  go_wp2
  refine bodyPost_ret (v := .agg #[.int .i64 x, .int .i64 y]) (by simp [results, Try.results16, go_sem]) rfl ⟨rfl, ?_⟩
  first | exact ((Below.refl _ _).alloc (Nat.le_refl _) _).alloc (by simp) _ | exact (Below.refl _ _).alloc (Nat.le_refl _) _

set_option maxHeartbeats 1000000 in
theorem may_any (x y : Int) (w : World) :
    Calls Try.prog 17 #[.agg #[.int .i64 x, .int .i64 y]] w fun e w' => e = .returned (.bool (rightB (x, y))) ∧ Below w.heap.size w w' := by
  rcases (show (¬ -16777216 ≤ x) ∨ (-16777216 ≤ x ∧ ¬ x ≤ 16777216) ∨ (-16777216 ≤ x ∧ x ≤ 16777216 ∧ ¬ -16777216 ≤ y) ∨ (-16777216 ≤ x ∧ x ≤ 16777216 ∧ -16777216 ≤ y ∧ ¬ y ≤ 16777216) ∨ (-16777216 ≤ x ∧ x ≤ 16777216 ∧ -16777216 ≤ y ∧ y ≤ 16777216) by omega) with h | h | h | h | h
  all_goals
    first
      | (have HS := Lib.hid (show rightB (x, y) = false by apply Bool.eq_false_iff.2; intro hq; have := rightB_bd hq; simp only at this; omega))
      | (have HS := Lib.hid (show rightB (x, y) = true by simp only [rightB, inB, Bool.and_eq_true, decide_eq_true_eq]; omega))
    go_enter Try.func17, Try.ntmps17
    go_wp2
    go_ret
    exact ⟨ret_bool HS.out.symm, (Below.refl _ _).alloc (Nat.le_refl _) _⟩

set_option maxHeartbeats 1000000 in
theorem all_any (A : Option Addr) (n c : Nat) (l : List Pt) (w : World) (hr : Reads w w.heap.size 2 A n (ptC l)) (hl : l.length = n) (hn : n ≤ 9223372036854775807) :
    Calls Try.prog 20 #[.slice A n c] w fun e w' => e = .returned (.bool (rightAll l)) ∧ Below w.heap.size w w' := by
  go_enter Try.func20, Try.ntmps20
  go_wp2
  go_loopw [3] (fun i wr => ∃ k : Nat, k ≤ n ∧ i = .int .i64 k ∧ rightAll (l.take k) = true ∧ Below w.heap.size w wr) (fun i _ => n - (intOf i).toNat)
  case atStart => exact ⟨0, Nat.zero_le _, rfl, by simp [rightAll], Below.refl _ _⟩
  case round =>
    obtain ⟨k, hk, rfl, hall, hb⟩ := hrel
    by_cases hlt : k < n
    · obtain ⟨b, off, rfl, hbb, hc⟩ := (hr.below hb).pt hl (by omega)
      obtain ⟨c0, c1⟩ := hc k hlt
      have HS := Lib.hid (rightAll_succ l k (by omega))
      have HA := Lib.hid hall
      have hfalse : rightB l[k] = false → rightAll l = false := fun h => by
        rw [rightAll, List.all_eq_false]; exact ⟨l[k], List.getElem_mem _, by simp [h]⟩
      have HF := Lib.hid hfalse
      clear hall hfalse hc
      by_cases h1 : rightB l[k] = true
      all_goals
        go_wp2_with (go_at_call 17; refine (may_any _ _ _).mono ?_; rintro e w1 ⟨rfl, hb1⟩)
      · go_roundw
        case rel => exact ⟨k + 1, by omega, by go_num, by rw [HS.out, HA.out, h1]; rfl, hb.trans (hb1.mono hb.size)⟩
        case measure => simp [intOf]; omega
      · go_ret
        exact ⟨ret_bool (HF.out (Bool.eq_false_iff.2 h1)).symm, hb.trans (hb1.mono hb.size)⟩
    · have HA := Lib.hid hall
      clear hall
      go_wp2
      go_ret
      exact ⟨ret_bool (by have := HA.out; rw [List.take_of_length_le (by omega)] at this; exact this.symm), hb⟩

theorem cross6 (ax ay bx bY cx cy : Int) : ax * bY - bx * ay + bx * cy - cx * bY + cx * ay - ax * cy = crossZ (ax, ay) (bx, bY) (cx, cy) := by
  simp only [crossZ, Int.mul_sub, Int.sub_mul]
  rw [Int.mul_comm bY cx, Int.mul_comm ay cx, Int.mul_comm bY ax, Int.mul_comm ay ax]
  omega

set_option maxHeartbeats 1000000 in
theorem refCross_any (ax ay bx bY cx cy : Int) (w : World) (ha : rightB (ax, ay) = true) (hb : rightB (bx, bY) = true) (hc : rightB (cx, cy) = true) :
    Calls Try.prog 18 #[.agg #[.int .i64 ax, .int .i64 ay], .agg #[.int .i64 bx, .int .i64 bY], .agg #[.int .i64 cx, .int .i64 cy]] w
      fun e w' => e = .returned (.int .i64 (crossZ (ax, ay) (bx, bY) (cx, cy))) ∧ Below w.heap.size w w' := by
  have b1 := rightB_bd ha
  have b2 := rightB_bd hb
  have b3 := rightB_bd hc
  simp only at b1 b2 b3
  have HF := Lib.hid (cross6 ax ay bx bY cx cy)
  have m1 := mul_bd ax bY 16777216 (by omega) (by omega) (by omega) (by omega)
  have m2 := mul_bd bx ay 16777216 (by omega) (by omega) (by omega) (by omega)
  have m3 := mul_bd bx cy 16777216 (by omega) (by omega) (by omega) (by omega)
  have m4 := mul_bd cx bY 16777216 (by omega) (by omega) (by omega) (by omega)
  have m5 := mul_bd cx ay 16777216 (by omega) (by omega) (by omega) (by omega)
  have m6 := mul_bd ax cy 16777216 (by omega) (by omega) (by omega) (by omega)
  clear ha hb hc
  go_enter Try.func18, Try.ntmps18
  go_wp2
  go_ret
  exact ⟨ret_int HF.out, (((Below.refl _ _).alloc (Nat.le_refl _) _).alloc (by simp) _).alloc (by simp <;> omega) _⟩

def signZ (n : Int) : Int := if 0 < n then 1 else if n < 0 then -1 else 0

set_option maxHeartbeats 1000000 in
theorem refSign_any (n : Int) (w : World) : Calls Try.prog 25 #[.int .i64 n] w fun e w' => e = .returned (.int .i64 (signZ n)) ∧ w = w' := by
  rcases Int.lt_trichotomy n 0 with h | h | h
  · have HS := Lib.hid (show signZ n = -1 by simp [signZ, h]; omega)
    go_enter Try.func25, Try.ntmps25
    go_wp2
    go_ret
    exact ⟨ret_int HS.out.symm, rfl⟩
  · subst h
    go_enter Try.func25, Try.ntmps25
    go_wp2
    go_ret
    exact ⟨rfl, rfl⟩
  · have HS := Lib.hid (show signZ n = 1 by simp [signZ, h])
    go_enter Try.func25, Try.ntmps25
    go_wp2
    go_ret
    exact ⟨ret_int HS.out.symm, rfl⟩
end Go.Proofs.Ytefhfbefgeadaaa
