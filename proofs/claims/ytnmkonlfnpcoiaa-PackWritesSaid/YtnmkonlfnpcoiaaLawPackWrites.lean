/-
  PROVED: Rows.PackWritesSaid: for every input the Go function PackWrites returns true, and each argument reads afterwards as it read before. Conditions: none.
-/
import Derived.Test.YtnmkonlfnpcoiaaWp7
import Derived.Test.YtnmkonlfnpcoiaaP27mw
import Derived.Test.YtnmkonlfnpcoiaaArg
namespace Go.Proofs.Ytnmkonlfnpcoiaa
open Go.ChangeShapes Go.WideShapes Go.ChangeAt Go.RowKit Go.Joins Go.Deep

theorem op5 : OpensF Try.prog 5 E5 (fun x => U8 x) := OpensF.u8 Try.underlying5
theorem op22 : OpensR Try.prog 22 (Rep.sl R5) (fun x => ∀ y1 ∈ x, U8 y1) := OpensR.sl Try.underlying22 (by kernel_rfl) (OpensR.fl op5)
theorem op3 : OpensF Try.prog 3 E3 (fun x => I64 x) := OpensF.i64 Try.underlying3
theorem op28 : OpensF Try.prog 28 E28 (fun x => I64 x.1 ∧ I64 x.2.1 ∧ I64 x.2.2) := OpensF.struct Try.underlying28 (by kernel_rfl) (FieldsF.cons op3 rfl (by kernel_rfl) (FieldsF.cons op3 rfl (by kernel_rfl) (FieldsF.one op3 rfl (by kernel_rfl))))
theorem op30 : OpensR Try.prog 30 R30 (fun x => (I64 x.1.1 ∧ I64 x.1.2.1 ∧ I64 x.1.2.2) ∧ (∀ y2 ∈ x.2, U8 y2)) := OpensR.struct Try.underlying30 (by kernel_rfl) (FieldsR.cons (OpensR.fl op28) rfl (by kernel_rfl) (FieldsR.one op22 rfl (by kernel_rfl)))
theorem op23 : OpensR Try.prog 23 (Rep.sl R30) (fun x => ∀ y3 ∈ x, (I64 y3.1.1 ∧ I64 y3.1.2.1 ∧ I64 y3.1.2.2) ∧ (∀ y4 ∈ y3.2, U8 y4)) := OpensR.sl Try.underlying23 (by kernel_rfl) op30
set_option maxRecDepth 100000 in
theorem packWrites_lifted (os : Os) (started : os.Started) (H : Type) (enc : TypeId × Value → H) :
    ReturnsInHanded {} Try.checked os 5 .any (Rows.packWritesSpec.pre6 enc Try.prog Try.f5 Rows.packWritesRow.domain false) (Rows.packWritesSpec.post enc Try.prog Try.f5 false true false false) := by
  refine returnsInHanded_of_change (C := Try.checked) own started (by kernel_rfl) Try.func5
    (ChangeSpec.witness6 (enc := enc) (C := Try.checked) false ⟨#[], #[.slice none 0 0, .slice none 0 0, .agg #[.int .i64 0, .int .i64 0, .int .i64 0]], []⟩ 8 (by kernel_rfl) (by kernel_rfl) (by kernel_rfl) (by kernel_rfl)) ?_
  intro W base args ds gs before hval0 hW hcnd _
  have hval : ∀ (j : Nat) t v, Try.f5.params[j]? = some t → args[j]? = some v → Value.okWide Try.prog W .any base t v := hval0
  have hW' := hW
  obtain ⟨p, q, hA0, hV, rfl, hfz, hnd⟩ := hW
  have hA : DataW.TrodAll enc Try.prog W 0 (fun _ => true) true Try.f5.params.toList args.toList ds p := hA0
  rw [Try.params5] at hA hval
  obtain ⟨v0, vs0, d0, ds0, p0, q0, hargs, rfl, rfl, h0, r0⟩ := trodAll_cons hA
  obtain ⟨v1, vs1, d1, ds1, p1, q1, rfl, rfl, rfl, h1, r1⟩ := trodAll_cons r0
  obtain ⟨v2, vs2, d2, ds2, p2, q2, rfl, rfl, rfl, h2, r2⟩ := trodAll_cons r1
  obtain ⟨rfl, rfl, rfl⟩ := trodAll_nil r2
  obtain rfl : args = #[v0, v1, v2] := by cases args; simp_all
  obtain ⟨rfl, rfl⟩ := trodVars_none hV
  obtain ⟨A0, c0, x0, rfl, hr0, k0⟩ := arg_slice Try.underlying22 op22 (hval 0 22 v0 rfl rfl) h0
  obtain ⟨A1, c1, x1, rfl, hr1, k1⟩ := arg_slice Try.underlying23 op23 (hval 1 23 v1 rfl rfl) h1
  obtain ⟨x2, rfl, k2⟩ := arg_agg Try.underlying28 op28 (hval 2 28 v2 rfl rfl) h2
  clear hval0
  refine (law27_PackWrites_w W x0 A0 c0 x1 A1 c1 x2 hr0 hr1 true (Pl.law27_PackWrites_true x0 x1 x2 k0 k1 k2)).mono fun e W' ⟨own', he, hg0⟩ => ?_
  have hg := hg0.below0
  subst he
  exact ⟨_, rfl, post_of_below hW' (fun _ _ _ => (trodAll_cons_mk (shut_bool Try.underlying4 _) trodAll_mk0)) (fun sp hsp => trodAll_stays laidOut hg (by kernel_rfl) hA0 (fun x hx => hW'.lt x (by simp only [List.append_nil] at hx ⊢; exact hx)) (fun x hx => hsp x (by simp only [List.append_nil] at hx ⊢; exact hx))) (fun _ _ => rfl) rfl hg (ok_one (by kernel_rfl) rfl (okWide_bool_mk Try.underlying4 _))⟩

theorem packWrites_over : Rows.packWritesRow.holds Try.pinned (OpenSpec.ofChange Rows.packWritesSpec) :=
  OpenClaim.holds_of_wide 5 Try.f5 rfl rfl rfl rfl rfl rfl rfl ⟨rfl, rfl, rfl, rfl, rfl⟩ rfl rfl rfl rfl rfl (by kernel_rfl) Try.func5 (by kernel_rfl)
    (of_decide_eq_true (by kernel_rfl)) (by unfold Func.isWrapper; first | (rw [if_pos (by decide +kernel)]; kernel_rfl) | (rw [if_neg (by decide +kernel)]; exact ⟨rfl, rfl⟩))
    (fun os started H enc _ => packWrites_lifted os started H enc)

/-- THE STATEMENT. -/
theorem packWrites_holds : Rows.PackWritesSaid := packWrites_over
#print axioms packWrites_holds
end Go.Proofs.Ytnmkonlfnpcoiaa
