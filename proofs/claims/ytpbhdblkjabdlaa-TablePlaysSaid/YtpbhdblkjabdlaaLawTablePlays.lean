/-
  PROVED: Rows.TablePlaysSaid: for every input the Go function TablePlays returns true, and each argument reads afterwards as it read before. Conditions: none.
-/
import Derived.Test.YtpbhdblkjabdlaaWp9
import Derived.Test.YtpbhdblkjabdlaaP11f
import Derived.Test.YtpbhdblkjabdlaaArg
namespace Go.Proofs.Ytpbhdblkjabdlaa
open Go.ChangeShapes Go.WideShapes Go.ChangeAt Go.RowKit Go.Joins Go.Deep

theorem op9 : OpensF Try.prog 9 E9 (fun x => x.size ≤ 9223372036854775807) := OpensF.str Try.underlying9
theorem op34 : OpensR Try.prog 34 (Rep.sl R9) (fun x => ∀ y1 ∈ x, y1.size ≤ 9223372036854775807) := OpensR.sl Try.underlying34 (by kernel_rfl) (OpensR.fl op9)
theorem op3 : OpensF Try.prog 3 E3 (fun x => I64 x) := OpensF.i64 Try.underlying3
theorem op60 : OpensF Try.prog 60 E60 (fun x => I64 x.1 ∧ x.2.1.size ≤ 9223372036854775807 ∧ I64 x.2.2) := OpensF.struct Try.underlying60 (by kernel_rfl) (FieldsF.cons op3 rfl (by kernel_rfl) (FieldsF.cons op9 rfl (by kernel_rfl) (FieldsF.one op3 rfl (by kernel_rfl))))
theorem op41 : OpensR Try.prog 41 (Rep.sl R60) (fun x => ∀ y1 ∈ x, I64 y1.1 ∧ y1.2.1.size ≤ 9223372036854775807 ∧ I64 y1.2.2) := OpensR.sl Try.underlying41 (by kernel_rfl) (OpensR.fl op60)
theorem op43 : OpensR Try.prog 43 ((Rep.sl R9).pr (Rep.sl R60)) (fun x => (∀ y3 ∈ x.1, y3.size ≤ 9223372036854775807) ∧ (∀ y3 ∈ x.2, I64 y3.1 ∧ y3.2.1.size ≤ 9223372036854775807 ∧ I64 y3.2.2)) := OpensR.struct Try.underlying43 (by kernel_rfl) (FieldsR.cons op34 rfl (by kernel_rfl) (FieldsR.one op41 rfl (by kernel_rfl)))
theorem op64 : OpensF Try.prog 64 E64 (fun x => x.1.size ≤ 9223372036854775807 ∧ (I64 x.2.1 ∧ x.2.2.1.size ≤ 9223372036854775807 ∧ I64 x.2.2.2)) := OpensF.struct Try.underlying64 (by kernel_rfl) (FieldsF.cons op9 rfl (by kernel_rfl) (FieldsF.one op60 rfl (by kernel_rfl)))
theorem op22 : OpensR Try.prog 22 (Rep.sl R64) (fun x => ∀ y1 ∈ x, y1.1.size ≤ 9223372036854775807 ∧ (I64 y1.2.1 ∧ y1.2.2.1.size ≤ 9223372036854775807 ∧ I64 y1.2.2.2)) := OpensR.sl Try.underlying22 (by kernel_rfl) (OpensR.fl op64)
theorem op44 : OpensR Try.prog 44 (Rep.sl R22) (fun x => ∀ y1 ∈ x, ∀ y1' ∈ y1, y1'.1.size ≤ 9223372036854775807 ∧ (I64 y1'.2.1 ∧ y1'.2.2.1.size ≤ 9223372036854775807 ∧ I64 y1'.2.2.2)) := OpensR.sl Try.underlying44 (by kernel_rfl) op22
set_option maxRecDepth 100000 in
theorem tablePlays_lifted (os : Os) (started : os.Started) (H : Type) (enc : TypeId × Value → H) :
    ReturnsInHanded {} Try.checked os 4 .any (Rows.tablePlaysSpec.pre6 enc Try.prog Try.f4 Rows.tablePlaysRow.domain false) (Rows.tablePlaysSpec.post enc Try.prog Try.f4 false true false false) := by
  refine returnsInHanded_of_change (C := Try.checked) own started (by kernel_rfl) Try.func4
    (ChangeSpec.witness6 (enc := enc) (C := Try.checked) false ⟨#[], #[.agg #[.slice none 0 0, .slice none 0 0], .slice none 0 0], []⟩ 8 (by kernel_rfl) (by kernel_rfl) (by kernel_rfl) (by kernel_rfl)) ?_
  intro W base args ds gs before hval0 hW hcnd _
  have hval : ∀ (j : Nat) t v, Try.f4.params[j]? = some t → args[j]? = some v → Value.okWide Try.prog W .any base t v := hval0
  have hW' := hW
  obtain ⟨p, q, hA0, hV, rfl, hfz, hnd⟩ := hW
  have hA : DataW.TrodAll enc Try.prog W 0 (fun _ => true) true Try.f4.params.toList args.toList ds p := hA0
  rw [Try.params4] at hA hval
  obtain ⟨v0, vs0, d0, ds0, p0, q0, hargs, rfl, rfl, h0, r0⟩ := trodAll_cons hA
  obtain ⟨v1, vs1, d1, ds1, p1, q1, rfl, rfl, rfl, h1, r1⟩ := trodAll_cons r0
  obtain ⟨rfl, rfl, rfl⟩ := trodAll_nil r1
  obtain rfl : args = #[v0, v1] := by cases args; simp_all
  obtain ⟨rfl, rfl⟩ := trodVars_none hV
  obtain ⟨A0_0, c0_0, A0_1, c0_1, x0, rfl, hr0_0, hr0_1, k0⟩ := arg_agg2 Try.underlying43 op43 (hval 0 43 v0 rfl rfl) h0
  obtain ⟨A1, c1, x1, rfl, hr1, k1⟩ := arg_slice Try.underlying44 op44 (hval 1 44 v1 rfl rfl) h1
  clear hval0
  refine (law11_TablePlays_w W x0 A0_0 c0_0 A0_1 c0_1 x1 A1 c1 hr0_0 hr0_1 hr1 true (Pl.law11_TablePlays_true x0 x1 k0 k1)).mono fun e W' ⟨own', he, hg0⟩ => ?_
  have hg := hg0.below0
  subst he
  exact ⟨_, rfl, post_of_below hW' (fun _ _ _ => (trodAll_cons_mk (shut_bool Try.underlying4 _) trodAll_mk0)) (fun sp hsp => trodAll_stays laidOut hg (by kernel_rfl) hA0 (fun x hx => hW'.lt x (by simp only [List.append_nil] at hx ⊢; exact hx)) (fun x hx => hsp x (by simp only [List.append_nil] at hx ⊢; exact hx))) (fun _ _ => rfl) rfl hg (ok_one (by kernel_rfl) rfl (okWide_bool_mk Try.underlying4 _))⟩

theorem tablePlays_over : Rows.tablePlaysRow.holds Try.pinned (OpenSpec.ofChange Rows.tablePlaysSpec) :=
  OpenClaim.holds_of_wide 4 Try.f4 rfl rfl rfl rfl rfl rfl rfl ⟨rfl, rfl, rfl, rfl, rfl⟩ rfl rfl rfl rfl rfl (by kernel_rfl) Try.func4 (by kernel_rfl)
    (of_decide_eq_true (by kernel_rfl)) (by unfold Func.isWrapper; first | (rw [if_pos (by decide +kernel)]; kernel_rfl) | (rw [if_neg (by decide +kernel)]; exact ⟨rfl, rfl⟩))
    (fun os started H enc _ => tablePlays_lifted os started H enc)

/-- THE STATEMENT. -/
theorem tablePlays_holds : Rows.TablePlaysSaid := tablePlays_over
#print axioms tablePlays_holds
end Go.Proofs.Ytpbhdblkjabdlaa
