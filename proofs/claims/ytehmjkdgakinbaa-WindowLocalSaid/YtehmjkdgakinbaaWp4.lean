/-
  Chapter 20. The walks.
-/
import Derived.Test.YtehmjkdgakinbaaWp2
import Derived.Test.YtehmjkdgakinbaaSp4
namespace Go.Proofs.Ytehmjkdgakinbaa
open Go.RowKit
set_option linter.unusedVariables false
theorem window_Place_w (w : World) (t1 : Int × Int × Int) (r : ((Int × Int) × (Int × Int)) × Bool) (hs : window_Place t1 = some r) :
    Calls Try.prog 18 #[.agg #[.int .i64 t1.1, .int .i64 t1.2.1, .int .i64 t1.2.2]] w fun e w' => ∃ own' : Own, e = .returned (.tuple #[.agg #[.int .i64 r.1.1.1, .int .i64 r.1.1.2, .int .i64 r.1.2.1, .int .i64 r.1.2.2], .bool r.2]) ∧ Evo [] (fun _ => 0) own' w w' := by
  refine fl_enter (n := 8) rfl rfl rfl (Nat.le_of_ble_eq_true rfl) ?_
  intro a0 Q hd0 hz0 harg hret
  have ha0 := harg 0 _ rfl
  clear harg
  have hE0 : Evo [] (fun _ => 0) (fun _ => 0) w w := Evo.refl _ _ _
  refine rg_plain_seq (n := 8) (rs := []) (own0 := (fun _ => 0)) (K := [])
      (bs := [0, 0, 0])
      (ds := [⟨[], [0], [], Fct.blk 21 1 (fun g => .pointer (some ⟨g, 0, none⟩)) 27 #[.int .i64 t1.1, .int .i64 t1.2.1, .int .i64 t1.2.2]⟩,
      ⟨[], [], [], Fct.blk 23 2 (fun g => .pointer (some ⟨g, 0, none⟩)) 25 #[.int .i64 0, .int .i64 0, .int .i64 0, .int .i64 0]⟩,
      ⟨[], [], [], Fct.val 3 (.bool false)⟩]) (by kernel_rfl) hz0 hd0 (fun _ h => nomatch h) ?_ ?_
  · refine steps_cons (fun own a wx hf hsl hE => ?_) ?_
    · obtain ⟨s_0, -⟩ := hsl
      exact sg_plain rfl rfl (or_new [(0, .agg #[.int .i64 t1.1, .int .i64 t1.2.1, .int .i64 t1.2.2])] rfl rfl ⟨(s_0.trans ha0), trivial⟩ (by kernel_rfl))
    refine steps_cons (fun own a wx hf hsl hE => ?_) ?_
    · exact sg_plain rfl rfl (or_new [] rfl rfl trivial (by kernel_rfl))
    refine steps_cons (fun own a wx hf hsl hE => ?_) ?_
    · exact sg_plain rfl rfl (or_assign rfl)
    exact steps_nil
  intro own24 a24 w24 hd24 hz24 hk24 hf24 hE24
  obtain ⟨⟨g20, (f_1 : a24.eval (.tmp 1) = .pointer (some ⟨g20, 0, none⟩)), (b_g20 : BlkO own24 21 w24 g20 27 #[.int .i64 t1.1, .int .i64 t1.2.1, .int .i64 t1.2.2])⟩, ⟨g22, (f_2 : a24.eval (.tmp 2) = .pointer (some ⟨g22, 0, none⟩)), (b_g22 : BlkO own24 23 w24 g22 25 #[.int .i64 0, .int .i64 0, .int .i64 0, .int .i64 0])⟩, -⟩ := hf24 [0, 1] rfl
  have e24_1 := f_1
  have e24_2 := f_2
  have hX24 := Evo.step hE0 (fun _ => Nat.le_refl 0) hE24 rfl
  have b24_g20 := b_g20
  have b24_g22 := b_g22
  obtain ⟨r26, hr26, hs⟩ := obind hs
  refine rg_plain_seq (n := 8) (rs := [Fct.at_ 23 g22 25 #[.int .i64 0, .int .i64 0, .int .i64 0, .int .i64 0]]) (own0 := own24) (K := [23])
      (bs := [0, 1, 3, 3, 15, 31])
      (ds := [⟨[], [1], [], Fct.val 4 (.agg #[.int .i64 t1.1, .int .i64 t1.2.1, .int .i64 t1.2.2])⟩,
      ⟨[0], [], [], Fct.val 5 (.tuple #[.agg #[.int .i64 r26.1.1.1, .int .i64 r26.1.1.2, .int .i64 r26.1.2.1, .int .i64 r26.1.2.2], .bool r26.2])⟩,
      ⟨[1], [], [], Fct.val 6 (.agg #[.int .i64 r26.1.1.1, .int .i64 r26.1.1.2, .int .i64 r26.1.2.1, .int .i64 r26.1.2.2])⟩,
      ⟨[1], [], [], Fct.val 7 (.bool r26.2)⟩,
      ⟨[2, 6], [2], [23], Fct.at_ 27 g22 25 #[.int .i64 r26.1.1.1, .int .i64 r26.1.1.2, .int .i64 r26.1.2.1, .int .i64 r26.1.2.2]⟩,
      ⟨[3], [], [], Fct.val 3 (.bool r26.2)⟩]) (by kernel_rfl) hz24 hd24 (by simp only [List.forall_mem_cons]; exact ⟨b24_g22, fun _ h => nomatch h⟩) ?_ ?_
  · refine steps_cons (fun own a wx hf hsl hE => ?_) ?_
    · obtain ⟨s_1, -⟩ := hsl
      exact sg_plain rfl rfl (or_load (l := [.int .i64 t1.1, .int .i64 t1.2.1, .int .i64 t1.2.2]) ta27 (s_1.trans e24_1) (Blk.cellsFrom (BlkO.evo (by decide) hE b24_g20).2 0 rfl) rfl)
    refine steps_cons (fun own a wx hf hsl hE => ?_) ?_
    · obtain ⟨(f_4 : a.eval (.tmp 4) = .agg #[.int .i64 t1.1, .int .i64 t1.2.1, .int .i64 t1.2.2]), -⟩ := hf
      exact sg_plain rfl rfl (or_call cf14 (args2 f_4 rfl) (window_Window_w _ t1 0  r26 hr26) post_val)
    refine steps_cons (fun own a wx hf hsl hE => ?_) ?_
    · obtain ⟨(f_5 : a.eval (.tmp 5) = .tuple #[.agg #[.int .i64 r26.1.1.1, .int .i64 r26.1.1.2, .int .i64 r26.1.2.1, .int .i64 r26.1.2.2], .bool r26.2]), -⟩ := hf
      exact sg_plain rfl rfl (or_k [(5, .tuple #[.agg #[.int .i64 r26.1.1.1, .int .i64 r26.1.1.2, .int .i64 r26.1.2.1, .int .i64 r26.1.2.2], .bool r26.2])] rfl rfl ⟨f_5, trivial⟩ (by kernel_rfl))
    refine steps_cons (fun own a wx hf hsl hE => ?_) ?_
    · obtain ⟨(f_5 : a.eval (.tmp 5) = .tuple #[.agg #[.int .i64 r26.1.1.1, .int .i64 r26.1.1.2, .int .i64 r26.1.2.1, .int .i64 r26.1.2.2], .bool r26.2]), -⟩ := hf
      exact sg_plain rfl rfl (or_k [(5, .tuple #[.agg #[.int .i64 r26.1.1.1, .int .i64 r26.1.1.2, .int .i64 r26.1.2.1, .int .i64 r26.1.2.2], .bool r26.2])] rfl rfl ⟨f_5, trivial⟩ (by kernel_rfl))
    refine steps_cons (fun own a wx hf hsl hE => ?_) ?_
    · obtain ⟨(f_6 : a.eval (.tmp 6) = .agg #[.int .i64 r26.1.1.1, .int .i64 r26.1.1.2, .int .i64 r26.1.2.1, .int .i64 r26.1.2.2]), (b_g22 : BlkO own 23 wx g22 25 #[.int .i64 0, .int .i64 0, .int .i64 0, .int .i64 0]), -⟩ := hf
      obtain ⟨s_2, -⟩ := hsl
      exact sg_plain rfl rfl (or_store (l := #[.int .i64 r26.1.1.1, .int .i64 r26.1.1.2, .int .i64 r26.1.2.1, .int .i64 r26.1.2.2]) (lab := 23) (lab2 := 27) ts25 (s_2.trans e24_2) f_6 b_g22 (by simp) (by kernel_rfl) (mem_of rfl) (by decide) (by kernel_rfl) (fun own' a' w' ha hb => hb))
    refine steps_cons (fun own a wx hf hsl hE => ?_) ?_
    · obtain ⟨(f_7 : a.eval (.tmp 7) = .bool r26.2), -⟩ := hf
      exact sg_plain rfl rfl (or_assign f_7)
    exact steps_nil
  intro own28 a28 w28 hd28 hz28 hk28 hf28 hE28
  have e28_2 : a28.eval (.tmp 2) = .pointer (some ⟨g22, 0, none⟩) := (hk28 2 rfl).trans e24_2
  obtain ⟨(f_3 : a28.eval (.tmp 3) = .bool r26.2), (b_g22 : BlkO own28 27 w28 g22 25 #[.int .i64 r26.1.1.1, .int .i64 r26.1.1.2, .int .i64 r26.1.2.1, .int .i64 r26.1.2.2]), -⟩ := hf28 [5, 4] rfl
  have e28_3 := f_3
  have hX28 := Evo.step hX24 (fun _ => Nat.le_refl 0) hE28 rfl
  have b28_g22 := b_g22
  refine fl_ret ?_
  obtain rfl := osome hs
  exact hret _ _ _ _ (.inl rfl) hd28 (results2_ rfl (RVal.cell_ e28_2 (run_loadVarAgg (l := [.int .i64 r26.1.1.1, .int .i64 r26.1.1.2, .int .i64 r26.1.2.1, .int .i64 r26.1.2.2]) ta25 (Blk.cellsFrom b28_g22.2 0 rfl) rfl)) (RVal.tmp_ e28_3)) ⟨own28, rfl, hX28⟩

end Go.Proofs.Ytehmjkdgakinbaa
