/-
  PROVED: Rows.TableReadsSaid: for every input the Go function TableReads returns true, and each argument reads afterwards as it read before. Conditions: none.
-/
import Derived.Test.YtpbhdblkjabdlaaWp11
import Derived.Test.YtpbhdblkjabdlaaP11g
import Derived.Test.YtpbhdblkjabdlaaArg
namespace Go.Proofs.Ytpbhdblkjabdlaa
open Go.ChangeShapes Go.WideShapes Go.ChangeAt Go.RowKit Go.Joins Go.Deep

theorem op9 : OpensF Try.prog 9 E9 (fun x => x.size ≤ 9223372036854775807) := OpensF.str Try.underlying9
theorem op34 : OpensR Try.prog 34 (Rep.sl R9) (fun x => ∀ y1 ∈ x, y1.size ≤ 9223372036854775807) := OpensR.sl Try.underlying34 (by kernel_rfl) (OpensR.fl op9)
theorem op3 : OpensF Try.prog 3 E3 (fun x => I64 x) := OpensF.i64 Try.underlying3
theorem op60 : OpensF Try.prog 60 E60 (fun x => I64 x.1 ∧ x.2.1.size ≤ 9223372036854775807 ∧ I64 x.2.2) := OpensF.struct Try.underlying60 (by kernel_rfl) (FieldsF.cons op3 rfl (by kernel_rfl) (FieldsF.cons op9 rfl (by kernel_rfl) (FieldsF.one op3 rfl (by kernel_rfl))))
theorem op41 : OpensR Try.prog 41 (Rep.sl R60) (fun x => ∀ y1 ∈ x, I64 y1.1 ∧ y1.2.1.size ≤ 9223372036854775807 ∧ I64 y1.2.2) := OpensR.sl Try.underlying41 (by kernel_rfl) (OpensR.fl op60)
theorem op43 : OpensR Try.prog 43 ((Rep.sl R9).pr (Rep.sl R60)) (fun x => (∀ y3 ∈ x.1, y3.size ≤ 9223372036854775807) ∧ (∀ y3 ∈ x.2, I64 y3.1 ∧ y3.2.1.size ≤ 9223372036854775807 ∧ I64 y3.2.2)) := OpensR.struct Try.underlying43 (by kernel_rfl) (FieldsR.cons op34 rfl (by kernel_rfl) (FieldsR.one op41 rfl (by kernel_rfl)))
theorem op23 : OpensR Try.prog 23 (Rep.sl R3) (fun x => ∀ y1 ∈ x, I64 y1) := OpensR.sl Try.underlying23 (by kernel_rfl) (OpensR.fl op3)
theorem op64 : OpensF Try.prog 64 E64 (fun x => x.1.size ≤ 9223372036854775807 ∧ (I64 x.2.1 ∧ x.2.2.1.size ≤ 9223372036854775807 ∧ I64 x.2.2.2)) := OpensF.struct Try.underlying64 (by kernel_rfl) (FieldsF.cons op9 rfl (by kernel_rfl) (FieldsF.one op60 rfl (by kernel_rfl)))
theorem op22 : OpensR Try.prog 22 (Rep.sl R64) (fun x => ∀ y1 ∈ x, y1.1.size ≤ 9223372036854775807 ∧ (I64 y1.2.1 ∧ y1.2.2.1.size ≤ 9223372036854775807 ∧ I64 y1.2.2.2)) := OpensR.sl Try.underlying22 (by kernel_rfl) (OpensR.fl op64)
set_option maxRecDepth 100000 in
theorem tableReads_lifted (os : Os) (started : os.Started) (H : Type) (enc : TypeId × Value → H) :
    ReturnsInHanded {} Try.checked os 6 .any (Rows.tableReadsSpec.pre6 enc Try.prog Try.f6 Rows.tableReadsRow.domain false) (Rows.tableReadsSpec.post enc Try.prog Try.f6 false true false false) := by
  refine returnsInHanded_of_change (C := Try.checked) own started (by kernel_rfl) Try.func6
    (ChangeSpec.witness6 (enc := enc) (C := Try.checked) false ⟨#[], #[.agg #[.slice none 0 0, .slice none 0 0], .slice none 0 0, .slice none 0 0, .slice none 0 0, .string ByteArray.empty], []⟩ 8 (by kernel_rfl) (by kernel_rfl) (by kernel_rfl) (by kernel_rfl)) ?_
  intro W base args ds gs before hval0 hW hcnd _
  have hval : ∀ (j : Nat) t v, Try.f6.params[j]? = some t → args[j]? = some v → Value.okWide Try.prog W .any base t v := hval0
  have hW' := hW
  obtain ⟨p, q, hA0, hV, rfl, hfz, hnd⟩ := hW
  have hA : DataW.TrodAll enc Try.prog W 0 (fun _ => true) true Try.f6.params.toList args.toList ds p := hA0
  rw [Try.params6] at hA hval
  obtain ⟨v0, vs0, d0, ds0, p0, q0, hargs, rfl, rfl, h0, r0⟩ := trodAll_cons hA
  obtain ⟨v1, vs1, d1, ds1, p1, q1, rfl, rfl, rfl, h1, r1⟩ := trodAll_cons r0
  obtain ⟨v2, vs2, d2, ds2, p2, q2, rfl, rfl, rfl, h2, r2⟩ := trodAll_cons r1
  obtain ⟨v3, vs3, d3, ds3, p3, q3, rfl, rfl, rfl, h3, r3⟩ := trodAll_cons r2
  obtain ⟨v4, vs4, d4, ds4, p4, q4, rfl, rfl, rfl, h4, r4⟩ := trodAll_cons r3
  obtain ⟨rfl, rfl, rfl⟩ := trodAll_nil r4
  obtain rfl : args = #[v0, v1, v2, v3, v4] := by cases args; simp_all
  obtain ⟨rfl, rfl⟩ := trodVars_none hV
  obtain ⟨A0_0, c0_0, A0_1, c0_1, x0, rfl, hr0_0, hr0_1, k0⟩ := arg_agg2 Try.underlying43 op43 (hval 0 43 v0 rfl rfl) h0
  obtain ⟨A1, c1, x1, rfl, hr1, k1⟩ := arg_slice Try.underlying23 op23 (hval 1 23 v1 rfl rfl) h1
  obtain ⟨A2, c2, x2, rfl, hr2, k2⟩ := arg_slice Try.underlying22 op22 (hval 2 22 v2 rfl rfl) h2
  obtain ⟨A3, c3, x3, rfl, hr3, k3⟩ := arg_slice Try.underlying22 op22 (hval 3 22 v3 rfl rfl) h3
  obtain ⟨x4, rfl, k4⟩ := arg_str Try.underlying9 (hval 4 9 v4 rfl rfl) h4
  clear hval0
  refine (law11_TableReads_w W x0 A0_0 c0_0 A0_1 c0_1 x1 A1 c1 x2 A2 c2 x3 A3 c3 x4 hr0_0 hr0_1 hr1 hr2 hr3 true (Pl.law11_TableReads_true x0 x1 x2 x3 x4 k0 k1 k2 k3 k4)).mono fun e W' ⟨own', he, hg0⟩ => ?_
  have hg := hg0.below0
  subst he
  exact ⟨_, rfl, post_of_below hW' (fun _ _ _ => (trodAll_cons_mk (shut_bool Try.underlying4 _) trodAll_mk0)) (fun sp hsp => trodAll_stays laidOut hg (by kernel_rfl) hA0 (fun x hx => hW'.lt x (by simp only [List.append_nil] at hx ⊢; exact hx)) (fun x hx => hsp x (by simp only [List.append_nil] at hx ⊢; exact hx))) (fun _ _ => rfl) rfl hg (ok_one (by kernel_rfl) rfl (okWide_bool_mk Try.underlying4 _))⟩

theorem tableReads_over : Rows.tableReadsRow.holds Try.pinned (OpenSpec.ofChange Rows.tableReadsSpec) :=
  OpenClaim.holds_of_wide 6 Try.f6 rfl rfl rfl rfl rfl rfl rfl ⟨rfl, rfl, rfl, rfl, rfl⟩ rfl rfl rfl rfl rfl (by kernel_rfl) Try.func6 (by kernel_rfl)
    (of_decide_eq_true (by kernel_rfl)) (by unfold Func.isWrapper; first | (rw [if_pos (by decide +kernel)]; kernel_rfl) | (rw [if_neg (by decide +kernel)]; exact ⟨rfl, rfl⟩))
    (fun os started H enc _ => tableReads_lifted os started H enc)

/-- THE STATEMENT. -/
theorem tableReads_holds : Rows.TableReadsSaid := tableReads_over
#print axioms tableReads_holds
end Go.Proofs.Ytpbhdblkjabdlaa
