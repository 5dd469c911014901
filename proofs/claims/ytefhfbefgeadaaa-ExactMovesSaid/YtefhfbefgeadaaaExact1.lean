/-
  Contracts of package exact's first functions: within, Right. 
-/
import Derived.Test.YtefhfbefgeadaaaVoc
import Derived.Test.YtefhfbefgeadaaaProg
import Derived.LoopTactic
import Derived.BigQuiet
import Derived.Deep.QuietTactic
import Derived.Deep.DeepFit
import Derived.Outline
namespace Go.Proofs.Ytefhfbefgeadaaa
open Go.RowKit

theorem ret_int {k : IntKind} {a b : Int} (h : a = b) : Ending.returned (.int k a) = .returned (.int k b) := by rw [h]
theorem ret_bool {a b : Bool} (h : a = b) : Ending.returned (.bool a) = .returned (.bool b) := by rw [h]

def inB (n l g : Int) : Bool := decide (l ≤ n) && decide (n ≤ g)

set_option maxHeartbeats 400000 in
theorem within_any (n l g : Int) (w : World) :
    Calls Try.prog 32 #[.int .i64 n, .int .i64 l, .int .i64 g] w fun e w' => e = .returned (.bool (inB n l g)) ∧ w = w' := by
  by_cases h1 : l ≤ n
  all_goals
    go_enter Try.func32, Try.ntmps32
    go_wp2
    go_ret
    exact ⟨ret_bool (by simp [inB, h1] <;> omega), rfl⟩

def rightB (p : Pt) : Bool := inB p.1 (-16777216) 16777216 && inB p.2 (-16777216) 16777216
def rightAll (l : List Pt) : Bool := l.all rightB

theorem rightAll_succ (l : List Pt) (k : Nat) (hk : k < l.length) : rightAll (l.take (k + 1)) = (rightAll (l.take k) && rightB l[k]) := by
  rw [List.take_succ_eq_append_getElem hk]; simp only [rightAll, List.all_append, List.all_cons, List.all_nil, Bool.and_true]

set_option maxHeartbeats 1000000 in
theorem right_any (A : Option Addr) (n c : Nat) (l : List Pt) (w : World) (hr : Reads w w.heap.size 2 A n (ptC l)) (hl : l.length = n) (hn : n ≤ 9223372036854775807) :
    Calls Try.prog 19 #[.slice A n c] w fun e w' => e = .returned (.bool (rightAll l)) ∧ Below w.heap.size w w' := by
  go_enter Try.func19, Try.ntmps19
  go_wp2
  go_loopw [7] (fun i wr => ∃ k : Nat, k ≤ n ∧ i = .int .i64 k ∧ rightAll (l.take k) = true ∧ Below w.heap.size w wr) (fun i _ => n - (intOf i).toNat)
  case atStart => exact ⟨0, Nat.zero_le _, rfl, by simp [rightAll], Below.refl _ _⟩
  case round =>
    obtain ⟨k, hk, rfl, hall, hb⟩ := hrel
    by_cases hlt : k < n
    · obtain ⟨b, off, rfl, hbb, hc⟩ := (hr.below hb).pt hl (by omega)
      obtain ⟨c0, c1⟩ := hc k hlt
      have HS := Lib.hid (rightAll_succ l k (by omega))
      have HA := Lib.hid hall
      clear hall
      have hfalse : rightB l[k] = false → rightAll l = false := fun h => by
        rw [rightAll, List.all_eq_false]; exact ⟨l[k], List.getElem_mem _, by simp [h]⟩
      have HF := Lib.hid hfalse
      clear hfalse
      by_cases h1 : inB l[k].1 (-16777216) 16777216 = true
      · by_cases h2 : inB l[k].2 (-16777216) 16777216 = true
        all_goals
          go_wp2_with (go_at_call 32; refine (within_any _ _ _ _).mono ?_; rintro e w' ⟨rfl, rfl⟩)
        · go_roundw
          case rel => exact ⟨k + 1, by omega, by go_num, by rw [HS.out, HA.out]; simp [rightB, h1, h2], hb.alloc hb.size _⟩
          case measure => simp [intOf]; omega
        · go_ret
          exact ⟨ret_bool (HF.out (by simp [rightB, h2])).symm, hb.alloc hb.size _⟩
      · go_wp2_with (go_at_call 32; refine (within_any _ _ _ _).mono ?_; rintro e w' ⟨rfl, rfl⟩)
        go_ret
        exact ⟨ret_bool (HF.out (by simp [rightB, h1])).symm, hb.alloc hb.size _⟩
    · have HA := Lib.hid hall
      clear hall
      go_wp2
      go_ret
      exact ⟨ret_bool (by have := HA.out; rw [List.take_of_length_le (by omega)] at this; exact this.symm), hb⟩
end Go.Proofs.Ytefhfbefgeadaaa
