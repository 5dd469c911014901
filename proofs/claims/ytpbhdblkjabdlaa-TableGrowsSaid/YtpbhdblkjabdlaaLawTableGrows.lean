/-
  PROVED: Rows.TableGrowsSaid: for every input the Go function TableGrows returns true, and each argument reads afterwards as it read before. Conditions: none.
-/
import Derived.Test.YtpbhdblkjabdlaaWp10
import Derived.Test.YtpbhdblkjabdlaaP11e
import Derived.Test.YtpbhdblkjabdlaaArg
namespace Go.Proofs.Ytpbhdblkjabdlaa
open Go.ChangeShapes Go.WideShapes Go.ChangeAt Go.RowKit Go.Joins Go.Deep

theorem op9 : OpensF Try.prog 9 E9 (fun x => x.size ≤ 9223372036854775807) := OpensF.str Try.underlying9
theorem op3 : OpensF Try.prog 3 E3 (fun x => I64 x) := OpensF.i64 Try.underlying3
theorem op60 : OpensF Try.prog 60 E60 (fun x => I64 x.1 ∧ x.2.1.size ≤ 9223372036854775807 ∧ I64 x.2.2) := OpensF.struct Try.underlying60 (by kernel_rfl) (FieldsF.cons op3 rfl (by kernel_rfl) (FieldsF.cons op9 rfl (by kernel_rfl) (FieldsF.one op3 rfl (by kernel_rfl))))
theorem op64 : OpensF Try.prog 64 E64 (fun x => x.1.size ≤ 9223372036854775807 ∧ (I64 x.2.1 ∧ x.2.2.1.size ≤ 9223372036854775807 ∧ I64 x.2.2.2)) := OpensF.struct Try.underlying64 (by kernel_rfl) (FieldsF.cons op9 rfl (by kernel_rfl) (FieldsF.one op60 rfl (by kernel_rfl)))
theorem op22 : OpensR Try.prog 22 (Rep.sl R64) (fun x => ∀ y1 ∈ x, y1.1.size ≤ 9223372036854775807 ∧ (I64 y1.2.1 ∧ y1.2.2.1.size ≤ 9223372036854775807 ∧ I64 y1.2.2.2)) := OpensR.sl Try.underlying22 (by kernel_rfl) (OpensR.fl op64)
theorem op44 : OpensR Try.prog 44 (Rep.sl R22) (fun x => ∀ y1 ∈ x, ∀ y1' ∈ y1, y1'.1.size ≤ 9223372036854775807 ∧ (I64 y1'.2.1 ∧ y1'.2.2.1.size ≤ 9223372036854775807 ∧ I64 y1'.2.2.2)) := OpensR.sl Try.underlying44 (by kernel_rfl) op22
set_option maxRecDepth 100000 in
theorem tableGrows_lifted (os : Os) (started : os.Started) (H : Type) (enc : TypeId × Value → H) :
    ReturnsInHanded {} Try.checked os 5 .any (Rows.tableGrowsSpec.pre6 enc Try.prog Try.f5 Rows.tableGrowsRow.domain false) (Rows.tableGrowsSpec.post enc Try.prog Try.f5 false true false false) := by
  refine returnsInHanded_of_change (C := Try.checked) own started (by kernel_rfl) Try.func5
    (ChangeSpec.witness6 (enc := enc) (C := Try.checked) false ⟨#[], #[.slice none 0 0], []⟩ 8 (by kernel_rfl) (by kernel_rfl) (by kernel_rfl) (by kernel_rfl)) ?_
  intro W base args ds gs before hval0 hW hcnd _
  have hval : ∀ (j : Nat) t v, Try.f5.params[j]? = some t → args[j]? = some v → Value.okWide Try.prog W .any base t v := hval0
  have hW' := hW
  obtain ⟨p, q, hA0, hV, rfl, hfz, hnd⟩ := hW
  have hA : DataW.TrodAll enc Try.prog W 0 (fun _ => true) true Try.f5.params.toList args.toList ds p := hA0
  rw [Try.params5] at hA hval
  obtain ⟨v0, vs0, d0, ds0, p0, q0, hargs, rfl, rfl, h0, r0⟩ := trodAll_cons hA
  obtain ⟨rfl, rfl, rfl⟩ := trodAll_nil r0
  obtain rfl : args = #[v0] := by cases args; simp_all
  obtain ⟨rfl, rfl⟩ := trodVars_none hV
  obtain ⟨A0, c0, x0, rfl, hr0, k0⟩ := arg_slice Try.underlying44 op44 (hval 0 44 v0 rfl rfl) h0
  clear hval0
  refine (law11_TableGrows_w W x0 A0 c0 hr0 true (Pl.law11_TableGrows_true x0 k0)).mono fun e W' ⟨own', he, hg0⟩ => ?_
  have hg := hg0.below0
  subst he
  exact ⟨_, rfl, post_of_below hW' (fun _ _ _ => (trodAll_cons_mk (shut_bool Try.underlying4 _) trodAll_mk0)) (fun sp hsp => trodAll_stays laidOut hg (by kernel_rfl) hA0 (fun x hx => hW'.lt x (by simp only [List.append_nil] at hx ⊢; exact hx)) (fun x hx => hsp x (by simp only [List.append_nil] at hx ⊢; exact hx))) (fun _ _ => rfl) rfl hg (ok_one (by kernel_rfl) rfl (okWide_bool_mk Try.underlying4 _))⟩

theorem tableGrows_over : Rows.tableGrowsRow.holds Try.pinned (OpenSpec.ofChange Rows.tableGrowsSpec) :=
  OpenClaim.holds_of_wide 5 Try.f5 rfl rfl rfl rfl rfl rfl rfl ⟨rfl, rfl, rfl, rfl, rfl⟩ rfl rfl rfl rfl rfl (by kernel_rfl) Try.func5 (by kernel_rfl)
    (of_decide_eq_true (by kernel_rfl)) (by unfold Func.isWrapper; first | (rw [if_pos (by decide +kernel)]; kernel_rfl) | (rw [if_neg (by decide +kernel)]; exact ⟨rfl, rfl⟩))
    (fun os started H enc _ => tableGrows_lifted os started H enc)

/-- THE STATEMENT. -/
theorem tableGrows_holds : Rows.TableGrowsSaid := tableGrows_over
#print axioms tableGrows_holds
end Go.Proofs.Ytpbhdblkjabdlaa
