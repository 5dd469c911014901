/-
  PROVED: Rows.PackTurnsSaid: for every input the Go function PackTurns returns true, and each argument reads afterwards as it read before. Conditions: none.
-/
import Derived.Test.YtnmkonlfnpcoiaaWp7
import Derived.Test.YtnmkonlfnpcoiaaP27d
import Derived.Test.YtnmkonlfnpcoiaaArg
namespace Go.Proofs.Ytnmkonlfnpcoiaa
open Go.ChangeShapes Go.WideShapes Go.ChangeAt Go.RowKit Go.Joins Go.Deep

theorem op5 : OpensF Try.prog 5 E5 (fun x => U8 x) := OpensF.u8 Try.underlying5
theorem op22 : OpensR Try.prog 22 (Rep.sl R5) (fun x => ∀ y1 ∈ x, U8 y1) := OpensR.sl Try.underlying22 (by kernel_rfl) (OpensR.fl op5)
theorem op3 : OpensF Try.prog 3 E3 (fun x => I64 x) := OpensF.i64 Try.underlying3
theorem op28 : OpensF Try.prog 28 E28 (fun x => I64 x.1 ∧ I64 x.2.1 ∧ I64 x.2.2) := OpensF.struct Try.underlying28 (by kernel_rfl) (FieldsF.cons op3 rfl (by kernel_rfl) (FieldsF.cons op3 rfl (by kernel_rfl) (FieldsF.one op3 rfl (by kernel_rfl))))
theorem op30 : OpensR Try.prog 30 R30 (fun x => (I64 x.1.1 ∧ I64 x.1.2.1 ∧ I64 x.1.2.2) ∧ (∀ y2 ∈ x.2, U8 y2)) := OpensR.struct Try.underlying30 (by kernel_rfl) (FieldsR.cons (OpensR.fl op28) rfl (by kernel_rfl) (FieldsR.one op22 rfl (by kernel_rfl)))
theorem op23 : OpensR Try.prog 23 (Rep.sl R30) (fun x => ∀ y3 ∈ x, (I64 y3.1.1 ∧ I64 y3.1.2.1 ∧ I64 y3.1.2.2) ∧ (∀ y4 ∈ y3.2, U8 y4)) := OpensR.sl Try.underlying23 (by kernel_rfl) op30
set_option maxRecDepth 100000 in
theorem packTurns_lifted (os : Os) (started : os.Started) (H : Type) (enc : TypeId × Value → H) :
    ReturnsInHanded {} Try.checked os 3 .any (Rows.packTurnsSpec.pre6 enc Try.prog Try.f3 Rows.packTurnsRow.domain false) (Rows.packTurnsSpec.post enc Try.prog Try.f3 false true false false) := by
  refine returnsInHanded_of_change (C := Try.checked) own started (by kernel_rfl) Try.func3
    (ChangeSpec.witness6 (enc := enc) (C := Try.checked) false ⟨#[], #[.slice none 0 0, .slice none 0 0, .int .i64 0], []⟩ 8 (by kernel_rfl) (by kernel_rfl) (by kernel_rfl) (by kernel_rfl)) ?_
  intro W base args ds gs before hval0 hW hcnd _
  have hval : ∀ (j : Nat) t v, Try.f3.params[j]? = some t → args[j]? = some v → Value.okWide Try.prog W .any base t v := hval0
  have hW' := hW
  obtain ⟨p, q, hA0, hV, rfl, hfz, hnd⟩ := hW
  have hA : DataW.TrodAll enc Try.prog W 0 (fun _ => true) true Try.f3.params.toList args.toList ds p := hA0
  rw [Try.params3] at hA hval
  obtain ⟨v0, vs0, d0, ds0, p0, q0, hargs, rfl, rfl, h0, r0⟩ := trodAll_cons hA
  obtain ⟨v1, vs1, d1, ds1, p1, q1, rfl, rfl, rfl, h1, r1⟩ := trodAll_cons r0
  obtain ⟨v2, vs2, d2, ds2, p2, q2, rfl, rfl, rfl, h2, r2⟩ := trodAll_cons r1
  obtain ⟨rfl, rfl, rfl⟩ := trodAll_nil r2
  obtain rfl : args = #[v0, v1, v2] := by cases args; simp_all
  obtain ⟨rfl, rfl⟩ := trodVars_none hV
  obtain ⟨A0, c0, x0, rfl, hr0, k0⟩ := arg_slice Try.underlying22 op22 (hval 0 22 v0 rfl rfl) h0
  obtain ⟨A1, c1, x1, rfl, hr1, k1⟩ := arg_slice Try.underlying23 op23 (hval 1 23 v1 rfl rfl) h1
  obtain ⟨x2, rfl, k2⟩ := arg_i64 Try.underlying3 (hval 2 3 v2 rfl rfl) h2
  clear hval0
  refine (law27_PackTurns_w W x0 A0 c0 x1 A1 c1 x2 hr0 hr1 true (Pl.law27_PackTurns_true x0 x1 x2 k0 k1 k2)).mono fun e W' ⟨own', he, hg0⟩ => ?_
  have hg := hg0.below0
  subst he
  exact ⟨_, rfl, post_of_below hW' (fun _ _ _ => (trodAll_cons_mk (shut_bool Try.underlying4 _) trodAll_mk0)) (fun sp hsp => trodAll_stays laidOut hg (by kernel_rfl) hA0 (fun x hx => hW'.lt x (by simp only [List.append_nil] at hx ⊢; exact hx)) (fun x hx => hsp x (by simp only [List.append_nil] at hx ⊢; exact hx))) (fun _ _ => rfl) rfl hg (ok_one (by kernel_rfl) rfl (okWide_bool_mk Try.underlying4 _))⟩

theorem packTurns_over : Rows.packTurnsRow.holds Try.pinned (OpenSpec.ofChange Rows.packTurnsSpec) :=
  OpenClaim.holds_of_wide 3 Try.f3 rfl rfl rfl rfl rfl rfl rfl ⟨rfl, rfl, rfl, rfl, rfl⟩ rfl rfl rfl rfl rfl (by kernel_rfl) Try.func3 (by kernel_rfl)
    (of_decide_eq_true (by kernel_rfl)) (by unfold Func.isWrapper; first | (rw [if_pos (by decide +kernel)]; kernel_rfl) | (rw [if_neg (by decide +kernel)]; exact ⟨rfl, rfl⟩))
    (fun os started H enc _ => packTurns_lifted os started H enc)

/-- THE STATEMENT. -/
theorem packTurns_holds : Rows.PackTurnsSaid := packTurns_over
#print axioms packTurns_holds
end Go.Proofs.Ytnmkonlfnpcoiaa
