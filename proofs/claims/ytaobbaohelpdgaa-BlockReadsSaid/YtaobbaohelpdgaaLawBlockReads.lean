/-
  PROVED: Rows.BlockReadsSaid: for every input the Go function BlockReads returns true, and each argument reads afterwards as it read before. Conditions: none.
-/
import Derived.Test.YtaobbaohelpdgaaWp9
import Derived.Test.YtaobbaohelpdgaaP26k
import Derived.Test.YtaobbaohelpdgaaArg
namespace Go.Proofs.Ytaobbaohelpdgaa
open Go.ChangeShapes Go.WideShapes Go.ChangeAt Go.RowKit Go.Joins Go.Deep

theorem op5 : OpensF Try.prog 5 E5 (fun x => U8 x) := OpensF.u8 Try.underlying5
theorem op33 : OpensR Try.prog 33 (Rep.sl R5) (fun x => ∀ y1 ∈ x, U8 y1) := OpensR.sl Try.underlying33 (by kernel_rfl) (OpensR.fl op5)
set_option maxRecDepth 100000 in
theorem blockReads_lifted (os : Os) (started : os.Started) (H : Type) (enc : TypeId × Value → H) :
    ReturnsInHanded {} Try.checked os 4 .any (Rows.blockReadsSpec.pre6 enc Try.prog Try.f4 Rows.blockReadsRow.domain false) (Rows.blockReadsSpec.post enc Try.prog Try.f4 false true false false) := by
  refine returnsInHanded_of_change (C := Try.checked) own started (by kernel_rfl) Try.func4
    (ChangeSpec.witness6 (enc := enc) (C := Try.checked) false ⟨#[], #[.slice none 0 0], []⟩ 8 (by kernel_rfl) (by kernel_rfl) (by kernel_rfl) (by kernel_rfl)) ?_
  intro W base args ds gs before hval0 hW hcnd _
  have hval : ∀ (j : Nat) t v, Try.f4.params[j]? = some t → args[j]? = some v → Value.okWide Try.prog W .any base t v := hval0
  have hW' := hW
  obtain ⟨p, q, hA0, hV, rfl, hfz, hnd⟩ := hW
  have hA : DataW.TrodAll enc Try.prog W 0 (fun _ => true) true Try.f4.params.toList args.toList ds p := hA0
  rw [Try.params4] at hA hval
  obtain ⟨v0, vs0, d0, ds0, p0, q0, hargs, rfl, rfl, h0, r0⟩ := trodAll_cons hA
  obtain ⟨rfl, rfl, rfl⟩ := trodAll_nil r0
  obtain rfl : args = #[v0] := by cases args; simp_all
  obtain ⟨rfl, rfl⟩ := trodVars_none hV
  obtain ⟨A0, c0, x0, rfl, hr0, k0⟩ := arg_slice Try.underlying33 op33 (hval 0 33 v0 rfl rfl) h0
  clear hval0
  refine (law26_BlockReads_w W x0 A0 c0 hr0 true (Pl.law26_BlockReads_true x0 k0)).mono fun e W' ⟨own', he, hg0⟩ => ?_
  have hg := hg0.below0
  subst he
  exact ⟨_, rfl, post_of_below hW' (fun _ _ _ => (trodAll_cons_mk (shut_bool Try.underlying4 _) trodAll_mk0)) (fun sp hsp => trodAll_stays laidOut hg (by kernel_rfl) hA0 (fun x hx => hW'.lt x (by simp only [List.append_nil] at hx ⊢; exact hx)) (fun x hx => hsp x (by simp only [List.append_nil] at hx ⊢; exact hx))) (fun _ _ => rfl) rfl hg (ok_one (by kernel_rfl) rfl (okWide_bool_mk Try.underlying4 _))⟩

theorem blockReads_over : Rows.blockReadsRow.holds Try.pinned (OpenSpec.ofChange Rows.blockReadsSpec) :=
  OpenClaim.holds_of_wide 4 Try.f4 rfl rfl rfl rfl rfl rfl rfl ⟨rfl, rfl, rfl, rfl, rfl⟩ rfl rfl rfl rfl rfl (by kernel_rfl) Try.func4 (by kernel_rfl)
    (of_decide_eq_true (by kernel_rfl)) (by unfold Func.isWrapper; first | (rw [if_pos (by decide +kernel)]; kernel_rfl) | (rw [if_neg (by decide +kernel)]; exact ⟨rfl, rfl⟩))
    (fun os started H enc _ => blockReads_lifted os started H enc)

/-- THE STATEMENT. -/
theorem blockReads_holds : Rows.BlockReadsSaid := blockReads_over
#print axioms blockReads_holds
end Go.Proofs.Ytaobbaohelpdgaa
