/-
  PROVED: Rows.PackOpensSaid: for every input the Go function PackOpens returns true, and each argument reads afterwards as it read before. Conditions: none.
-/
import Derived.Test.YtnmkonlfnpcoiaaWp9
import Derived.Test.YtnmkonlfnpcoiaaP27mr
import Derived.Test.YtnmkonlfnpcoiaaArg
namespace Go.Proofs.Ytnmkonlfnpcoiaa
open Go.ChangeShapes Go.WideShapes Go.ChangeAt Go.RowKit Go.Joins Go.Deep

theorem op5 : OpensF Try.prog 5 E5 (fun x => U8 x) := OpensF.u8 Try.underlying5
theorem op22 : OpensR Try.prog 22 (Rep.sl R5) (fun x => ∀ y1 ∈ x, U8 y1) := OpensR.sl Try.underlying22 (by kernel_rfl) (OpensR.fl op5)
theorem op3 : OpensF Try.prog 3 E3 (fun x => I64 x) := OpensF.i64 Try.underlying3
theorem op28 : OpensF Try.prog 28 E28 (fun x => I64 x.1 ∧ I64 x.2.1 ∧ I64 x.2.2) := OpensF.struct Try.underlying28 (by kernel_rfl) (FieldsF.cons op3 rfl (by kernel_rfl) (FieldsF.cons op3 rfl (by kernel_rfl) (FieldsF.one op3 rfl (by kernel_rfl))))
set_option maxRecDepth 100000 in
theorem packOpens_lifted (os : Os) (started : os.Started) (H : Type) (enc : TypeId × Value → H) :
    ReturnsInHanded {} Try.checked os 6 .any (Rows.packOpensSpec.pre6 enc Try.prog Try.f6 Rows.packOpensRow.domain false) (Rows.packOpensSpec.post enc Try.prog Try.f6 false true false false) := by
  refine returnsInHanded_of_change (C := Try.checked) own started (by kernel_rfl) Try.func6
    (ChangeSpec.witness6 (enc := enc) (C := Try.checked) false ⟨#[], #[.slice none 0 0, .agg #[.int .i64 0, .int .i64 0, .int .i64 0]], []⟩ 8 (by kernel_rfl) (by kernel_rfl) (by kernel_rfl) (by kernel_rfl)) ?_
  intro W base args ds gs before hval0 hW hcnd _
  have hval : ∀ (j : Nat) t v, Try.f6.params[j]? = some t → args[j]? = some v → Value.okWide Try.prog W .any base t v := hval0
  have hW' := hW
  obtain ⟨p, q, hA0, hV, rfl, hfz, hnd⟩ := hW
  have hA : DataW.TrodAll enc Try.prog W 0 (fun _ => true) true Try.f6.params.toList args.toList ds p := hA0
  rw [Try.params6] at hA hval
  obtain ⟨v0, vs0, d0, ds0, p0, q0, hargs, rfl, rfl, h0, r0⟩ := trodAll_cons hA
  obtain ⟨v1, vs1, d1, ds1, p1, q1, rfl, rfl, rfl, h1, r1⟩ := trodAll_cons r0
  obtain ⟨rfl, rfl, rfl⟩ := trodAll_nil r1
  obtain rfl : args = #[v0, v1] := by cases args; simp_all
  obtain ⟨rfl, rfl⟩ := trodVars_none hV
  obtain ⟨A0, c0, x0, rfl, hr0, k0⟩ := arg_slice Try.underlying22 op22 (hval 0 22 v0 rfl rfl) h0
  obtain ⟨x1, rfl, k1⟩ := arg_agg Try.underlying28 op28 (hval 1 28 v1 rfl rfl) h1
  clear hval0
  refine (law27_PackOpens_w W x0 A0 c0 x1 hr0 true (Pl.law27_PackOpens_true x0 x1 k0 k1)).mono fun e W' ⟨own', he, hg0⟩ => ?_
  have hg := hg0.below0
  subst he
  exact ⟨_, rfl, post_of_below hW' (fun _ _ _ => (trodAll_cons_mk (shut_bool Try.underlying4 _) trodAll_mk0)) (fun sp hsp => trodAll_stays laidOut hg (by kernel_rfl) hA0 (fun x hx => hW'.lt x (by simp only [List.append_nil] at hx ⊢; exact hx)) (fun x hx => hsp x (by simp only [List.append_nil] at hx ⊢; exact hx))) (fun _ _ => rfl) rfl hg (ok_one (by kernel_rfl) rfl (okWide_bool_mk Try.underlying4 _))⟩

theorem packOpens_over : Rows.packOpensRow.holds Try.pinned (OpenSpec.ofChange Rows.packOpensSpec) :=
  OpenClaim.holds_of_wide 6 Try.f6 rfl rfl rfl rfl rfl rfl rfl ⟨rfl, rfl, rfl, rfl, rfl⟩ rfl rfl rfl rfl rfl (by kernel_rfl) Try.func6 (by kernel_rfl)
    (of_decide_eq_true (by kernel_rfl)) (by unfold Func.isWrapper; first | (rw [if_pos (by decide +kernel)]; kernel_rfl) | (rw [if_neg (by decide +kernel)]; exact ⟨rfl, rfl⟩))
    (fun os started H enc _ => packOpens_lifted os started H enc)

/-- THE STATEMENT. -/
theorem packOpens_holds : Rows.PackOpensSaid := packOpens_over
#print axioms packOpens_holds
end Go.Proofs.Ytnmkonlfnpcoiaa
