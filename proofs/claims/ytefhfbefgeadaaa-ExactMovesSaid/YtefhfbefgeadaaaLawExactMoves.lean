/-
  PROVED: Rows.ExactMovesSaid: for every input the Go function ExactMoves returns true, and each argument reads afterwards as it read before. Conditions: none.
-/
import Derived.Test.YtefhfbefgeadaaaMoves
import Derived.Test.YtefhfbefgeadaaaFrame
namespace Go.Proofs.Ytefhfbefgeadaaa
open Go.ChangeShapes Go.WideShapes Go.ChangeAt Go.RowKit Go.Joins Go.Deep

set_option maxRecDepth 100000 in
theorem exactMoves_lifted (os : Os) (started : os.Started) (H : Type) (enc : TypeId × Value → H) :
    ReturnsInHanded {} Try.checked os 8 .any (Rows.exactMovesSpec.pre6 enc Try.prog Try.f8 Rows.exactMovesRow.domain false) (Rows.exactMovesSpec.post enc Try.prog Try.f8 false true false false) := by
  refine returnsInHanded_of_change (C := Try.checked) own started (by kernel_rfl) Try.func8
    (ChangeSpec.witness6 (enc := enc) (C := Try.checked) false ⟨#[], #[.agg #[.int .i64 0, .int .i64 0], .agg #[.int .i64 0, .int .i64 0], .agg #[.int .i64 0, .int .i64 0], .agg #[.int .i64 0, .int .i64 0], .agg #[.int .i64 0, .int .i64 0]], []⟩ 8 (by kernel_rfl) (by kernel_rfl) (by kernel_rfl) (by kernel_rfl)) ?_
  intro W base args ds gs before hval0 hW hcnd _
  have hval : ∀ (j : Nat) t v, Try.f8.params[j]? = some t → args[j]? = some v → Value.okWide Try.prog W .any base t v := hval0
  have hW' := hW
  obtain ⟨p, q, hA0, hV, rfl, hfz, hnd⟩ := hW
  have hA : DataW.TrodAll enc Try.prog W 0 (fun _ => true) true Try.f8.params.toList args.toList ds p := hA0
  rw [Try.params8] at hA hval
  obtain ⟨v0, vs0, d0, ds0, p0, q0, hargs, rfl, rfl, h0, r0⟩ := trodAll_cons hA
  obtain ⟨v1, vs1, d1, ds1, p1, q1, rfl, rfl, rfl, h1, r1⟩ := trodAll_cons r0
  obtain ⟨v2, vs2, d2, ds2, p2, q2, rfl, rfl, rfl, h2, r2⟩ := trodAll_cons r1
  obtain ⟨v3, vs3, d3, ds3, p3, q3, rfl, rfl, rfl, h3, r3⟩ := trodAll_cons r2
  obtain ⟨v4, vs4, d4, ds4, p4, q4, rfl, rfl, rfl, h4, r4⟩ := trodAll_cons r3
  obtain ⟨rfl, rfl, rfl⟩ := trodAll_nil r4
  obtain rfl : args = #[v0, v1, v2, v3, v4] := by cases args; simp_all
  obtain ⟨rfl, rfl⟩ := trodVars_none hV
  obtain ⟨x0, y0, rfl, wp0⟩ := arg_pt Try.underlying29 (by kernel_rfl) (by kernel_rfl) Try.underlying3 Try.underlying3 (hval 0 29 v0 rfl rfl) h0
  obtain ⟨x1, y1, rfl, wp1⟩ := arg_pt Try.underlying29 (by kernel_rfl) (by kernel_rfl) Try.underlying3 Try.underlying3 (hval 1 29 v1 rfl rfl) h1
  obtain ⟨x2, y2, rfl, wp2⟩ := arg_pt Try.underlying29 (by kernel_rfl) (by kernel_rfl) Try.underlying3 Try.underlying3 (hval 2 29 v2 rfl rfl) h2
  obtain ⟨x3, y3, rfl, wp3⟩ := arg_pt Try.underlying29 (by kernel_rfl) (by kernel_rfl) Try.underlying3 Try.underlying3 (hval 3 29 v3 rfl rfl) h3
  obtain ⟨x4, y4, rfl, wp4⟩ := arg_pt Try.underlying29 (by kernel_rfl) (by kernel_rfl) Try.underlying3 Try.underlying3 (hval 4 29 v4 rfl rfl) h4
  clear hval0
  refine (exactMoves_walk (w := W) x0 y0 wp0 x1 y1 wp1 x2 y2 wp2 x3 y3 wp3 x4 y4 wp4).mono fun e W' ⟨he, hg⟩ => ?_
  subst he
  exact ⟨_, rfl, post_of_below hW' (fun _ _ _ => (trodAll_cons_mk (shut_bool Try.underlying4 _) trodAll_mk0)) (fun sp hsp => trodAll_stays laidOut hg (by kernel_rfl) hA0 (fun x hx => hW'.lt x (by simp only [List.append_nil] at hx ⊢; exact hx)) (fun x hx => hsp x (by simp only [List.append_nil] at hx ⊢; exact hx))) (fun _ _ => rfl) rfl hg (ok_one (by kernel_rfl) rfl (okWide_bool_mk Try.underlying4 _))⟩

theorem exactMoves_over : Rows.exactMovesRow.holds Try.pinned (OpenSpec.ofChange Rows.exactMovesSpec) :=
  OpenClaim.holds_of_wide 8 Try.f8 rfl rfl rfl rfl rfl rfl rfl ⟨rfl, rfl, rfl, rfl, rfl⟩ rfl rfl rfl rfl rfl (by kernel_rfl) Try.func8 (by kernel_rfl)
    (of_decide_eq_true (by kernel_rfl)) (by unfold Func.isWrapper; first | (rw [if_pos (by decide +kernel)]; kernel_rfl) | (rw [if_neg (by decide +kernel)]; exact ⟨rfl, rfl⟩))
    (fun os started H enc _ => exactMoves_lifted os started H enc)

/-- THE STATEMENT. -/
theorem exactMoves_holds : Rows.ExactMovesSaid := exactMoves_over
#print axioms exactMoves_holds
end Go.Proofs.Ytefhfbefgeadaaa
