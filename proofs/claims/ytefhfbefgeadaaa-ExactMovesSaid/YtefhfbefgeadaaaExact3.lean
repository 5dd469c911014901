/-
  Contracts of package exact: between, On, Less.
-/
import Derived.Test.YtefhfbefgeadaaaExact2
namespace Go.Proofs.Ytefhfbefgeadaaa
open Go.RowKit

def betweenB (a b p : Pt) : Bool := inB p.1 (min a.1 b.1) (max a.1 b.1) && inB p.2 (min a.2 b.2) (max a.2 b.2)
def onB (a b p : Pt) : Bool := rightAll [a, b, p] && turn a b p == 0 && betweenB a b p

set_option maxHeartbeats 1000000 in
theorem between_any (ax ay bx bY px py : Int) (w : World) :
    Calls Try.prog 33 #[.agg #[.int .i64 ax, .int .i64 ay], .agg #[.int .i64 bx, .int .i64 bY], .agg #[.int .i64 px, .int .i64 py]] w
      fun e w' => e = .returned (.bool (betweenB (ax, ay) (bx, bY) (px, py))) ∧ Below w.heap.size w w' := by
  have HF := Lib.hid (show betweenB (ax, ay) (bx, bY) (px, py) = (inB px (imin ax bx) (imax ax bx) && inB py (imin ay bY) (imax ay bY)) by simp only [betweenB, imin_eq, imax_eq])
  generalize hg : inB px (imin ax bx) (imax ax bx) = g at *
  have Hg := Lib.hid hg
  clear hg
  cases g
  all_goals
    obtain ⟨hmin, hmax⟩ := mins Try.prog
    go_enter Try.func33, Try.ntmps33
    go_wp2_with (go_at_call 32; refine (within_any _ _ _ _).mono ?_; rintro e w' ⟨rfl, rfl⟩; try rw [Hg.out])
    go_ret
    exact ⟨ret_bool HF.out.symm, (((Below.refl _ _).alloc (by simp) _).alloc (by simp) _).alloc (by simp <;> omega) _⟩
end Go.Proofs.Ytefhfbefgeadaaa
