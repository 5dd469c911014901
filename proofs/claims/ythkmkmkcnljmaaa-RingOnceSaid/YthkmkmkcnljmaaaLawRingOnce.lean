/-
  PROVED: Rows.RingOnceSaid: for every input the Go function RingOnce returns true, and each argument reads afterwards as it read before. Conditions: none.
-/
import Derived.Test.YthkmkmkcnljmaaaWp8
import Derived.Test.YthkmkmkcnljmaaaP03t
import Derived.Test.YthkmkmkcnljmaaaArg
namespace Go.Proofs.Ythkmkmkcnljmaaa
open Go.ChangeShapes Go.WideShapes Go.ChangeAt Go.RowKit Go.Joins Go.Deep

theorem op3 : OpensF Try.prog 3 E3 (fun x => I64 x) := OpensF.i64 Try.underlying3
theorem op32 : OpensF Try.prog 32 E32 (fun x => I64 x.1 ∧ I64 x.2) := OpensF.struct Try.underlying32 (by kernel_rfl) (FieldsF.cons op3 rfl (by kernel_rfl) (FieldsF.one op3 rfl (by kernel_rfl)))
theorem op22 : OpensR Try.prog 22 (Rep.sl R32) (fun x => ∀ y1 ∈ x, I64 y1.1 ∧ I64 y1.2) := OpensR.sl Try.underlying22 (by kernel_rfl) (OpensR.fl op32)
set_option maxRecDepth 100000 in
theorem ringOnce_lifted (os : Os) (started : os.Started) (H : Type) (enc : TypeId × Value → H) :
    ReturnsInHanded {} Try.checked os 4 .any (Rows.ringOnceSpec.pre6 enc Try.prog Try.f4 Rows.ringOnceRow.domain false) (Rows.ringOnceSpec.post enc Try.prog Try.f4 false true false false) := by
  refine returnsInHanded_of_change (C := Try.checked) own started (by kernel_rfl) Try.func4
    (ChangeSpec.witness6 (enc := enc) (C := Try.checked) false ⟨#[], #[.slice none 0 0, .agg #[.int .i64 0, .int .i64 0]], []⟩ 8 (by kernel_rfl) (by kernel_rfl) (by kernel_rfl) (by kernel_rfl)) ?_
  intro W base args ds gs before hval0 hW hcnd _
  have hval : ∀ (j : Nat) t v, Try.f4.params[j]? = some t → args[j]? = some v → Value.okWide Try.prog W .any base t v := hval0
  have hW' := hW
  obtain ⟨p, q, hA0, hV, rfl, hfz, hnd⟩ := hW
  have hA : DataW.TrodAll enc Try.prog W 0 (fun _ => true) true Try.f4.params.toList args.toList ds p := hA0
  rw [Try.params4] at hA hval
  obtain ⟨v0, vs0, d0, ds0, p0, q0, hargs, rfl, rfl, h0, r0⟩ := trodAll_cons hA
  obtain ⟨v1, vs1, d1, ds1, p1, q1, rfl, rfl, rfl, h1, r1⟩ := trodAll_cons r0
  obtain ⟨rfl, rfl, rfl⟩ := trodAll_nil r1
  obtain rfl : args = #[v0, v1] := by cases args; simp_all
  obtain ⟨rfl, rfl⟩ := trodVars_none hV
  obtain ⟨A0, c0, x0, rfl, hr0, k0⟩ := arg_slice Try.underlying22 op22 (hval 0 22 v0 rfl rfl) h0
  obtain ⟨x1, rfl, k1⟩ := arg_agg Try.underlying32 op32 (hval 1 32 v1 rfl rfl) h1
  clear hval0
  refine (law03_RingOnce_w W x0 A0 c0 x1 hr0 true (Pl.law03_RingOnce_true x0 x1 k0 k1)).mono fun e W' ⟨own', he, hg0⟩ => ?_
  have hg := hg0.below0
  subst he
  exact ⟨_, rfl, post_of_below hW' (fun _ _ _ => (trodAll_cons_mk (shut_bool Try.underlying4 _) trodAll_mk0)) (fun sp hsp => trodAll_stays laidOut hg (by kernel_rfl) hA0 (fun x hx => hW'.lt x (by simp only [List.append_nil] at hx ⊢; exact hx)) (fun x hx => hsp x (by simp only [List.append_nil] at hx ⊢; exact hx))) (fun _ _ => rfl) rfl hg (ok_one (by kernel_rfl) rfl (okWide_bool_mk Try.underlying4 _))⟩

theorem ringOnce_over : Rows.ringOnceRow.holds Try.pinned (OpenSpec.ofChange Rows.ringOnceSpec) :=
  OpenClaim.holds_of_wide 4 Try.f4 rfl rfl rfl rfl rfl rfl rfl ⟨rfl, rfl, rfl, rfl, rfl⟩ rfl rfl rfl rfl rfl (by kernel_rfl) Try.func4 (by kernel_rfl)
    (of_decide_eq_true (by kernel_rfl)) (by unfold Func.isWrapper; first | (rw [if_pos (by decide +kernel)]; kernel_rfl) | (rw [if_neg (by decide +kernel)]; exact ⟨rfl, rfl⟩))
    (fun os started H enc _ => ringOnce_lifted os started H enc)

/-- THE STATEMENT. -/
theorem ringOnce_holds : Rows.RingOnceSaid := ringOnce_over
#print axioms ringOnce_holds
end Go.Proofs.Ythkmkmkcnljmaaa
