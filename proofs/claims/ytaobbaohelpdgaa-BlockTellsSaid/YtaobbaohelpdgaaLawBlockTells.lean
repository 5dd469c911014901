/-
  PROVED: Rows.BlockTellsSaid: for every input the Go function BlockTells returns true, and each argument reads afterwards as it read before. Conditions: none.
-/
import Derived.Test.YtaobbaohelpdgaaWp7
import Derived.Test.YtaobbaohelpdgaaP26i
import Derived.Test.YtaobbaohelpdgaaArg
namespace Go.Proofs.Ytaobbaohelpdgaa
open Go.ChangeShapes Go.WideShapes Go.ChangeAt Go.RowKit Go.Joins Go.Deep

theorem op3 : OpensF Try.prog 3 E3 (fun x => I64 x) := OpensF.i64 Try.underlying3
theorem op56 : OpensF Try.prog 56 E56 (fun x => I64 x.1 ∧ I64 x.2) := OpensF.struct Try.underlying56 (by kernel_rfl) (FieldsF.cons op3 rfl (by kernel_rfl) (FieldsF.one op3 rfl (by kernel_rfl)))
theorem op57 : OpensR Try.prog 57 (Rep.sl R56) (fun x => ∀ y1 ∈ x, I64 y1.1 ∧ I64 y1.2) := OpensR.sl Try.underlying57 (by kernel_rfl) (OpensR.fl op56)
theorem op59 : OpensR Try.prog 59 R59 (fun x => (∀ y2 ∈ x.1, I64 y2.1 ∧ I64 y2.2) ∧ I64 x.2.1 ∧ I64 x.2.2) := OpensR.struct Try.underlying59 (by kernel_rfl) (FieldsR.cons op57 rfl (by kernel_rfl) (FieldsR.cons (OpensR.fl op3) rfl (by kernel_rfl) (FieldsR.one (OpensR.fl op3) rfl (by kernel_rfl))))
theorem op22 : OpensR Try.prog 22 (Rep.sl R59) (fun x => ∀ y3 ∈ x, (∀ y4 ∈ y3.1, I64 y4.1 ∧ I64 y4.2) ∧ I64 y3.2.1 ∧ I64 y3.2.2) := OpensR.sl Try.underlying22 (by kernel_rfl) op59
theorem op28 : OpensR Try.prog 28 (Rep.sl R3) (fun x => ∀ y5 ∈ x, I64 y5) := OpensR.sl Try.underlying28 (by kernel_rfl) (OpensR.fl op3)
theorem op27 : OpensR Try.prog 27 (Rep.sl R28) (fun x => ∀ y6 ∈ x, ∀ y7 ∈ y6, I64 y7) := OpensR.sl Try.underlying27 (by kernel_rfl) op28
theorem op23 : OpensR Try.prog 23 (Rep.sl R27) (fun x => ∀ y8 ∈ x, ∀ y9 ∈ y8, ∀ y10 ∈ y9, I64 y10) := OpensR.sl Try.underlying23 (by kernel_rfl) op27
theorem op25 : OpensR Try.prog 25 ((Rep.sl R59).pr (Rep.sl R27)) (fun x => (∀ y11 ∈ x.1, (∀ y12 ∈ y11.1, I64 y12.1 ∧ I64 y12.2) ∧ I64 y11.2.1 ∧ I64 y11.2.2) ∧ (∀ y13 ∈ x.2, ∀ y14 ∈ y13, ∀ y15 ∈ y14, I64 y15)) := OpensR.struct Try.underlying25 (by kernel_rfl) (FieldsR.cons op22 rfl (by kernel_rfl) (FieldsR.one op23 rfl (by kernel_rfl)))
theorem op5 : OpensF Try.prog 5 E5 (fun x => U8 x) := OpensF.u8 Try.underlying5
theorem op33 : OpensR Try.prog 33 (Rep.sl R5) (fun x => ∀ y16 ∈ x, U8 y16) := OpensR.sl Try.underlying33 (by kernel_rfl) (OpensR.fl op5)
set_option maxRecDepth 100000 in
theorem blockTells_lifted (os : Os) (started : os.Started) (H : Type) (enc : TypeId × Value → H) :
    ReturnsInHanded {} Try.checked os 5 .any (Rows.blockTellsSpec.pre6 enc Try.prog Try.f5 Rows.blockTellsRow.domain false) (Rows.blockTellsSpec.post enc Try.prog Try.f5 false true false false) := by
  refine returnsInHanded_of_change (C := Try.checked) own started (by kernel_rfl) Try.func5
    (ChangeSpec.witness6 (enc := enc) (C := Try.checked) false ⟨#[], #[.agg #[.slice none 0 0, .slice none 0 0], .slice none 0 0], []⟩ 8 (by kernel_rfl) (by kernel_rfl) (by kernel_rfl) (by kernel_rfl)) ?_
  intro W base args ds gs before hval0 hW hcnd _
  have hval : ∀ (j : Nat) t v, Try.f5.params[j]? = some t → args[j]? = some v → Value.okWide Try.prog W .any base t v := hval0
  have hW' := hW
  obtain ⟨p, q, hA0, hV, rfl, hfz, hnd⟩ := hW
  have hA : DataW.TrodAll enc Try.prog W 0 (fun _ => true) true Try.f5.params.toList args.toList ds p := hA0
  rw [Try.params5] at hA hval
  obtain ⟨v0, vs0, d0, ds0, p0, q0, hargs, rfl, rfl, h0, r0⟩ := trodAll_cons hA
  obtain ⟨v1, vs1, d1, ds1, p1, q1, rfl, rfl, rfl, h1, r1⟩ := trodAll_cons r0
  obtain ⟨rfl, rfl, rfl⟩ := trodAll_nil r1
  obtain rfl : args = #[v0, v1] := by cases args; simp_all
  obtain ⟨rfl, rfl⟩ := trodVars_none hV
  obtain ⟨A0_0, c0_0, A0_1, c0_1, x0, rfl, hr0_0, hr0_1, k0⟩ := arg_agg2 Try.underlying25 op25 (hval 0 25 v0 rfl rfl) h0
  obtain ⟨A1, c1, x1, rfl, hr1, k1⟩ := arg_slice Try.underlying33 op33 (hval 1 33 v1 rfl rfl) h1
  clear hval0
  refine (law26_BlockTells_w W x0 A0_0 c0_0 A0_1 c0_1 x1 A1 c1 hr0_0 hr0_1 hr1 true (Pl.law26_BlockTells_true x0 x1 k0 k1)).mono fun e W' ⟨own', he, hg0⟩ => ?_
  have hg := hg0.below0
  subst he
  exact ⟨_, rfl, post_of_below hW' (fun _ _ _ => (trodAll_cons_mk (shut_bool Try.underlying4 _) trodAll_mk0)) (fun sp hsp => trodAll_stays laidOut hg (by kernel_rfl) hA0 (fun x hx => hW'.lt x (by simp only [List.append_nil] at hx ⊢; exact hx)) (fun x hx => hsp x (by simp only [List.append_nil] at hx ⊢; exact hx))) (fun _ _ => rfl) rfl hg (ok_one (by kernel_rfl) rfl (okWide_bool_mk Try.underlying4 _))⟩

theorem blockTells_over : Rows.blockTellsRow.holds Try.pinned (OpenSpec.ofChange Rows.blockTellsSpec) :=
  OpenClaim.holds_of_wide 5 Try.f5 rfl rfl rfl rfl rfl rfl rfl ⟨rfl, rfl, rfl, rfl, rfl⟩ rfl rfl rfl rfl rfl (by kernel_rfl) Try.func5 (by kernel_rfl)
    (of_decide_eq_true (by kernel_rfl)) (by unfold Func.isWrapper; first | (rw [if_pos (by decide +kernel)]; kernel_rfl) | (rw [if_neg (by decide +kernel)]; exact ⟨rfl, rfl⟩))
    (fun os started H enc _ => blockTells_lifted os started H enc)

/-- THE STATEMENT. -/
theorem blockTells_holds : Rows.BlockTellsSaid := blockTells_over
#print axioms blockTells_holds
end Go.Proofs.Ytaobbaohelpdgaa
