/-
  PROVED: Rows.RowsFindSaid: for every input the Go function RowsFind returns true, and each argument reads afterwards as it read before. Conditions: none.
-/
import Derived.Test.YtajbjhcnppiloaaWp7
import Derived.Test.YtajbjhcnppiloaaP06d
import Derived.Test.YtajbjhcnppiloaaArg
namespace Go.Proofs.Ytajbjhcnppiloaa
open Go.ChangeShapes Go.WideShapes Go.ChangeAt Go.RowKit Go.Joins Go.Deep

theorem op3 : OpensF Try.prog 3 E3 (fun x => I64 x) := OpensF.i64 Try.underlying3
theorem op24 : OpensF Try.prog 24 E24 (fun x => I64 x.1 ∧ I64 x.2) := OpensF.struct Try.underlying24 (by kernel_rfl) (FieldsF.cons op3 rfl (by kernel_rfl) (FieldsF.one op3 rfl (by kernel_rfl)))
theorem op26 : OpensF Try.prog 26 E26 (fun x => (I64 x.1.1 ∧ I64 x.1.2) ∧ (I64 x.2.1 ∧ I64 x.2.2)) := OpensF.struct Try.underlying26 (by kernel_rfl) (FieldsF.cons op24 rfl (by kernel_rfl) (FieldsF.one op24 rfl (by kernel_rfl)))
theorem op22 : OpensR Try.prog 22 (Rep.sl R26) (fun x => ∀ y1 ∈ x, (I64 y1.1.1 ∧ I64 y1.1.2) ∧ (I64 y1.2.1 ∧ I64 y1.2.2)) := OpensR.sl Try.underlying22 (by kernel_rfl) (OpensR.fl op26)
set_option maxRecDepth 100000 in
theorem rowsFind_lifted (os : Os) (started : os.Started) (H : Type) (enc : TypeId × Value → H) :
    ReturnsInHanded {} Try.checked os 4 .any (Rows.rowsFindSpec.pre6 enc Try.prog Try.f4 Rows.rowsFindRow.domain false) (Rows.rowsFindSpec.post enc Try.prog Try.f4 false true false false) := by
  refine returnsInHanded_of_change (C := Try.checked) own started (by kernel_rfl) Try.func4
    (ChangeSpec.witness6 (enc := enc) (C := Try.checked) false ⟨#[], #[.slice none 0 0, .agg #[.int .i64 0, .int .i64 0, .int .i64 0, .int .i64 0], .agg #[.int .i64 0, .int .i64 0], .int .i64 0, .int .i64 0], []⟩ 8 (by kernel_rfl) (by kernel_rfl) (by kernel_rfl) (by kernel_rfl)) ?_
  intro W base args ds gs before hval0 hW hcnd _
  have hval : ∀ (j : Nat) t v, Try.f4.params[j]? = some t → args[j]? = some v → Value.okWide Try.prog W .any base t v := hval0
  have hW' := hW
  obtain ⟨p, q, hA0, hV, rfl, hfz, hnd⟩ := hW
  have hA : DataW.TrodAll enc Try.prog W 0 (fun _ => true) true Try.f4.params.toList args.toList ds p := hA0
  rw [Try.params4] at hA hval
  obtain ⟨v0, vs0, d0, ds0, p0, q0, hargs, rfl, rfl, h0, r0⟩ := trodAll_cons hA
  obtain ⟨v1, vs1, d1, ds1, p1, q1, rfl, rfl, rfl, h1, r1⟩ := trodAll_cons r0
  obtain ⟨v2, vs2, d2, ds2, p2, q2, rfl, rfl, rfl, h2, r2⟩ := trodAll_cons r1
  obtain ⟨v3, vs3, d3, ds3, p3, q3, rfl, rfl, rfl, h3, r3⟩ := trodAll_cons r2
  obtain ⟨v4, vs4, d4, ds4, p4, q4, rfl, rfl, rfl, h4, r4⟩ := trodAll_cons r3
  obtain ⟨rfl, rfl, rfl⟩ := trodAll_nil r4
  obtain rfl : args = #[v0, v1, v2, v3, v4] := by cases args; simp_all
  obtain ⟨rfl, rfl⟩ := trodVars_none hV
  obtain ⟨A0, c0, x0, rfl, hr0, k0⟩ := arg_slice Try.underlying22 op22 (hval 0 22 v0 rfl rfl) h0
  obtain ⟨x1, rfl, k1⟩ := arg_agg Try.underlying26 op26 (hval 1 26 v1 rfl rfl) h1
  obtain ⟨x2, rfl, k2⟩ := arg_agg Try.underlying24 op24 (hval 2 24 v2 rfl rfl) h2
  obtain ⟨x3, rfl, k3⟩ := arg_i64 Try.underlying3 (hval 3 3 v3 rfl rfl) h3
  obtain ⟨x4, rfl, k4⟩ := arg_i64 Try.underlying3 (hval 4 3 v4 rfl rfl) h4
  clear hval0
  refine (law06_RowsFind_w W x0 A0 c0 x1 x2 x3 x4 hr0 true (Pl.law06_RowsFind_true x0 x1 x2 x3 x4 k0 k1 k2 k3 k4)).mono fun e W' ⟨own', he, hg0⟩ => ?_
  have hg := hg0.below0
  subst he
  exact ⟨_, rfl, post_of_below hW' (fun _ _ _ => (trodAll_cons_mk (shut_bool Try.underlying4 _) trodAll_mk0)) (fun sp hsp => trodAll_stays laidOut hg (by kernel_rfl) hA0 (fun x hx => hW'.lt x (by simp only [List.append_nil] at hx ⊢; exact hx)) (fun x hx => hsp x (by simp only [List.append_nil] at hx ⊢; exact hx))) (fun _ _ => rfl) rfl hg (ok_one (by kernel_rfl) rfl (okWide_bool_mk Try.underlying4 _))⟩

theorem rowsFind_over : Rows.rowsFindRow.holds Try.pinned (OpenSpec.ofChange Rows.rowsFindSpec) :=
  OpenClaim.holds_of_wide 4 Try.f4 rfl rfl rfl rfl rfl rfl rfl ⟨rfl, rfl, rfl, rfl, rfl⟩ rfl rfl rfl rfl rfl (by kernel_rfl) Try.func4 (by kernel_rfl)
    (of_decide_eq_true (by kernel_rfl)) (by unfold Func.isWrapper; first | (rw [if_pos (by decide +kernel)]; kernel_rfl) | (rw [if_neg (by decide +kernel)]; exact ⟨rfl, rfl⟩))
    (fun os started H enc _ => rowsFind_lifted os started H enc)

/-- THE STATEMENT. -/
theorem rowsFind_holds : Rows.RowsFindSaid := rowsFind_over
#print axioms rowsFind_holds
end Go.Proofs.Ytajbjhcnppiloaa
