/-
  PROVED: Rows.RowsMeetSaid: for every input the Go function RowsMeet returns true, and each argument reads afterwards as it read before. Conditions: none.
-/
import Derived.Test.YtajbjhcnppiloaaWp9
import Derived.Test.YtajbjhcnppiloaaP06e
import Derived.Test.YtajbjhcnppiloaaArg
namespace Go.Proofs.Ytajbjhcnppiloaa
open Go.ChangeShapes Go.WideShapes Go.ChangeAt Go.RowKit Go.Joins Go.Deep

theorem op3 : OpensF Try.prog 3 E3 (fun x => I64 x) := OpensF.i64 Try.underlying3
theorem op24 : OpensF Try.prog 24 E24 (fun x => I64 x.1 ∧ I64 x.2) := OpensF.struct Try.underlying24 (by kernel_rfl) (FieldsF.cons op3 rfl (by kernel_rfl) (FieldsF.one op3 rfl (by kernel_rfl)))
theorem op26 : OpensF Try.prog 26 E26 (fun x => (I64 x.1.1 ∧ I64 x.1.2) ∧ (I64 x.2.1 ∧ I64 x.2.2)) := OpensF.struct Try.underlying26 (by kernel_rfl) (FieldsF.cons op24 rfl (by kernel_rfl) (FieldsF.one op24 rfl (by kernel_rfl)))
theorem op53 : OpensR Try.prog 53 (Rep.sl R24) (fun x => ∀ y1 ∈ x, I64 y1.1 ∧ I64 y1.2) := OpensR.sl Try.underlying53 (by kernel_rfl) (OpensR.fl op24)
set_option maxRecDepth 100000 in
theorem rowsMeet_lifted (os : Os) (started : os.Started) (H : Type) (enc : TypeId × Value → H) :
    ReturnsInHanded {} Try.checked os 6 .any (Rows.rowsMeetSpec.pre6 enc Try.prog Try.f6 Rows.rowsMeetRow.domain false) (Rows.rowsMeetSpec.post enc Try.prog Try.f6 false true false false) := by
  refine returnsInHanded_of_change (C := Try.checked) own started (by kernel_rfl) Try.func6
    (ChangeSpec.witness6 (enc := enc) (C := Try.checked) false ⟨#[], #[.agg #[.int .i64 0, .int .i64 0, .int .i64 0, .int .i64 0], .agg #[.int .i64 0, .int .i64 0, .int .i64 0, .int .i64 0], .slice none 0 0], []⟩ 8 (by kernel_rfl) (by kernel_rfl) (by kernel_rfl) (by kernel_rfl)) ?_
  intro W base args ds gs before hval0 hW hcnd _
  have hval : ∀ (j : Nat) t v, Try.f6.params[j]? = some t → args[j]? = some v → Value.okWide Try.prog W .any base t v := hval0
  have hW' := hW
  obtain ⟨p, q, hA0, hV, rfl, hfz, hnd⟩ := hW
  have hA : DataW.TrodAll enc Try.prog W 0 (fun _ => true) true Try.f6.params.toList args.toList ds p := hA0
  rw [Try.params6] at hA hval
  obtain ⟨v0, vs0, d0, ds0, p0, q0, hargs, rfl, rfl, h0, r0⟩ := trodAll_cons hA
  obtain ⟨v1, vs1, d1, ds1, p1, q1, rfl, rfl, rfl, h1, r1⟩ := trodAll_cons r0
  obtain ⟨v2, vs2, d2, ds2, p2, q2, rfl, rfl, rfl, h2, r2⟩ := trodAll_cons r1
  obtain ⟨rfl, rfl, rfl⟩ := trodAll_nil r2
  obtain rfl : args = #[v0, v1, v2] := by cases args; simp_all
  obtain ⟨rfl, rfl⟩ := trodVars_none hV
  obtain ⟨x0, rfl, k0⟩ := arg_agg Try.underlying26 op26 (hval 0 26 v0 rfl rfl) h0
  obtain ⟨x1, rfl, k1⟩ := arg_agg Try.underlying26 op26 (hval 1 26 v1 rfl rfl) h1
  obtain ⟨A2, c2, x2, rfl, hr2, k2⟩ := arg_slice Try.underlying53 op53 (hval 2 53 v2 rfl rfl) h2
  clear hval0
  refine (law06_RowsMeet_w W x0 x1 x2 A2 c2 hr2 true (Pl.law06_RowsMeet_true x0 x1 x2 k0 k1 k2)).mono fun e W' ⟨own', he, hg0⟩ => ?_
  have hg := hg0.below0
  subst he
  exact ⟨_, rfl, post_of_below hW' (fun _ _ _ => (trodAll_cons_mk (shut_bool Try.underlying4 _) trodAll_mk0)) (fun sp hsp => trodAll_stays laidOut hg (by kernel_rfl) hA0 (fun x hx => hW'.lt x (by simp only [List.append_nil] at hx ⊢; exact hx)) (fun x hx => hsp x (by simp only [List.append_nil] at hx ⊢; exact hx))) (fun _ _ => rfl) rfl hg (ok_one (by kernel_rfl) rfl (okWide_bool_mk Try.underlying4 _))⟩

theorem rowsMeet_over : Rows.rowsMeetRow.holds Try.pinned (OpenSpec.ofChange Rows.rowsMeetSpec) :=
  OpenClaim.holds_of_wide 6 Try.f6 rfl rfl rfl rfl rfl rfl rfl ⟨rfl, rfl, rfl, rfl, rfl⟩ rfl rfl rfl rfl rfl (by kernel_rfl) Try.func6 (by kernel_rfl)
    (of_decide_eq_true (by kernel_rfl)) (by unfold Func.isWrapper; first | (rw [if_pos (by decide +kernel)]; kernel_rfl) | (rw [if_neg (by decide +kernel)]; exact ⟨rfl, rfl⟩))
    (fun os started H enc _ => rowsMeet_lifted os started H enc)

/-- THE STATEMENT. -/
theorem rowsMeet_holds : Rows.RowsMeetSaid := rowsMeet_over
#print axioms rowsMeet_holds
end Go.Proofs.Ytajbjhcnppiloaa
