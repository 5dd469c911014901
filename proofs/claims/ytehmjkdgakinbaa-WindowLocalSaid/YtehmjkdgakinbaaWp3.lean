/-
  Chapter 20. The walks.
-/
import Derived.Test.YtehmjkdgakinbaaWp2
import Derived.Test.YtehmjkdgakinbaaSp3
namespace Go.Proofs.Ytehmjkdgakinbaa
open Go.RowKit
set_option linter.unusedVariables false
theorem law01_Of_w (w : World) (p1 : Int × Int) (r : Int × Int) (hs : law01_Of p1 = some r) :
    Calls Try.prog 9 #[.agg #[.int .i64 p1.1, .int .i64 p1.2]] w fun e w' => ∃ own' : Own, e = .returned (.agg #[.int .i64 r.1, .int .i64 r.2]) ∧ Evo [] (fun _ => 0) own' w w' := by
  refine fl_enter (n := 8) rfl rfl rfl (Nat.le_of_ble_eq_true rfl) ?_
  intro a0 Q hd0 hz0 harg hret
  have ha0 := harg 0 _ rfl
  clear harg
  have hE0 : Evo [] (fun _ => 0) (fun _ => 0) w w := Evo.refl _ _ _
  refine rg_plain_seq (n := 8) (rs := []) (own0 := (fun _ => 0)) (K := [])
      (bs := [0, 0])
      (ds := [⟨[], [0], [], Fct.blk 19 1 (fun g => .pointer (some ⟨g, 0, none⟩)) 23 #[.int .i64 p1.1, .int .i64 p1.2]⟩,
      ⟨[], [], [], Fct.blk 21 2 (fun g => .pointer (some ⟨g, 0, none⟩)) 33 #[.int .i64 0, .int .i64 0]⟩]) (by kernel_rfl) hz0 hd0 (fun _ h => nomatch h) ?_ ?_
  · refine steps_cons (fun own a wx hf hsl hE => ?_) ?_
    · obtain ⟨s_0, -⟩ := hsl
      exact sg_plain rfl rfl (or_new [(0, .agg #[.int .i64 p1.1, .int .i64 p1.2])] rfl rfl ⟨(s_0.trans ha0), trivial⟩ (by kernel_rfl))
    refine steps_cons (fun own a wx hf hsl hE => ?_) ?_
    · exact sg_plain rfl rfl (or_new [] rfl rfl trivial (by kernel_rfl))
    exact steps_nil
  intro own22 a22 w22 hd22 hz22 hk22 hf22 hE22
  obtain ⟨⟨g18, (f_1 : a22.eval (.tmp 1) = .pointer (some ⟨g18, 0, none⟩)), (b_g18 : BlkO own22 19 w22 g18 23 #[.int .i64 p1.1, .int .i64 p1.2])⟩, ⟨g20, (f_2 : a22.eval (.tmp 2) = .pointer (some ⟨g20, 0, none⟩)), (b_g20 : BlkO own22 21 w22 g20 33 #[.int .i64 0, .int .i64 0])⟩, -⟩ := hf22 [0, 1] rfl
  have e22_1 := f_1
  have e22_2 := f_2
  have hX22 := Evo.step hE0 (fun _ => Nat.le_refl 0) hE22 rfl
  have b22_g18 := b_g18
  have b22_g20 := b_g20
  refine rg_plain_seq (n := 8) (rs := [Fct.at_ 21 g20 33 #[.int .i64 0, .int .i64 0]]) (own0 := own22) (K := [21])
      (bs := [0, 1, 0, 4, 15, 31])
      (ds := [⟨[], [1], [], Fct.val 3 (.pointer (some ⟨g18, 0, none⟩))⟩,
      ⟨[0], [], [], Fct.val 4 (.int .i64 p1.1)⟩,
      ⟨[], [1], [], Fct.val 5 (.pointer (some ⟨g18, 1, none⟩))⟩,
      ⟨[2], [], [], Fct.val 6 (.int .i64 p1.2)⟩,
      ⟨[1, 3], [], [], Fct.val 7 (.agg #[.int .i64 p1.1, .int .i64 p1.2])⟩,
      ⟨[4, 6], [2], [21], Fct.at_ 23 g20 33 #[.int .i64 p1.1, .int .i64 p1.2]⟩]) (by kernel_rfl) hz22 hd22 (by simp only [List.forall_mem_cons]; exact ⟨b22_g20, fun _ h => nomatch h⟩) ?_ ?_
  · refine steps_cons (fun own a wx hf hsl hE => ?_) ?_
    · obtain ⟨s_1, -⟩ := hsl
      exact sg_plain rfl rfl (or_field fo23_0 (s_1.trans e22_1) (by rfl))
    refine steps_cons (fun own a wx hf hsl hE => ?_) ?_
    · obtain ⟨(f_3 : a.eval (.tmp 3) = .pointer (some ⟨g18, 0, none⟩)), -⟩ := hf
      exact sg_plain rfl rfl (or_load1 to3 f_3 (Blk.at_ (BlkO.evo (by decide) hE b22_g18).2 0 rfl))
    refine steps_cons (fun own a wx hf hsl hE => ?_) ?_
    · obtain ⟨s_1, -⟩ := hsl
      exact sg_plain rfl rfl (or_field fo23_1 (s_1.trans e22_1) (by rfl))
    refine steps_cons (fun own a wx hf hsl hE => ?_) ?_
    · obtain ⟨(f_5 : a.eval (.tmp 5) = .pointer (some ⟨g18, 1, none⟩)), -⟩ := hf
      exact sg_plain rfl rfl (or_load1 to3 f_5 (Blk.at_ (BlkO.evo (by decide) hE b22_g18).2 1 rfl))
    refine steps_cons (fun own a wx hf hsl hE => ?_) ?_
    · obtain ⟨(f_4 : a.eval (.tmp 4) = .int .i64 p1.1), (f_6 : a.eval (.tmp 6) = .int .i64 p1.2), -⟩ := hf
      exact sg_plain rfl rfl (or_k [(4, .int .i64 p1.1), (6, .int .i64 p1.2)] rfl rfl ⟨f_4, f_6, trivial⟩ (by kernel_rfl))
    refine steps_cons (fun own a wx hf hsl hE => ?_) ?_
    · obtain ⟨(f_7 : a.eval (.tmp 7) = .agg #[.int .i64 p1.1, .int .i64 p1.2]), (b_g20 : BlkO own 21 wx g20 33 #[.int .i64 0, .int .i64 0]), -⟩ := hf
      obtain ⟨s_2, -⟩ := hsl
      exact sg_plain rfl rfl (or_store (l := #[.int .i64 p1.1, .int .i64 p1.2]) (lab := 21) (lab2 := 23) ts33 (s_2.trans e22_2) f_7 b_g20 (by simp) (by kernel_rfl) (mem_of rfl) (by decide) (by kernel_rfl) (fun own' a' w' ha hb => hb))
    exact steps_nil
  intro own24 a24 w24 hd24 hz24 hk24 hf24 hE24
  have e24_2 : a24.eval (.tmp 2) = .pointer (some ⟨g20, 0, none⟩) := (hk24 2 rfl).trans e22_2
  obtain ⟨(b_g20 : BlkO own24 23 w24 g20 33 #[.int .i64 p1.1, .int .i64 p1.2]), -⟩ := hf24 [5] rfl
  have hX24 := Evo.step hX22 (fun _ => Nat.le_refl 0) hE24 rfl
  have b24_g20 := b_g20
  refine fl_ret ?_
  obtain rfl := (osome hs).symm
  exact hret _ _ _ _ (.inl rfl) hd24 (results1_ rfl (RVal.cell_ e24_2 (run_loadVarAgg (l := [.int .i64 p1.1, .int .i64 p1.2]) ta33 (Blk.cellsFrom b24_g20.2 0 rfl) rfl))) ⟨own24, rfl, hX24⟩

end Go.Proofs.Ytehmjkdgakinbaa
