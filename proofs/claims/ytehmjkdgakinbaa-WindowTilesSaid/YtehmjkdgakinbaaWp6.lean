/-
  Chapter 20. The walks.
-/
import Derived.Test.YtehmjkdgakinbaaWp2
import Derived.Test.YtehmjkdgakinbaaWp4
import Derived.Test.YtehmjkdgakinbaaSp6
namespace Go.Proofs.Ytehmjkdgakinbaa
open Go.RowKit
set_option linter.unusedVariables false
theorem window_Parent_w (w : World) (t1 : Int × Int × Int) (r : (Int × Int × Int) × Bool) (hs : window_Parent t1 = some r) :
    Calls Try.prog 17 #[.agg #[.int .i64 t1.1, .int .i64 t1.2.1, .int .i64 t1.2.2]] w fun e w' => ∃ own' : Own, e = .returned (.tuple #[.agg #[.int .i64 r.1.1, .int .i64 r.1.2.1, .int .i64 r.1.2.2], .bool r.2]) ∧ Evo [] (fun _ => 0) own' w w' := by
  refine fl_enter (n := 23) rfl rfl rfl (Nat.le_of_ble_eq_true rfl) ?_
  intro a0 Q hd0 hz0 harg hret
  have ha0 := harg 0 _ rfl
  clear harg
  have hE0 : Evo [] (fun _ => 0) (fun _ => 0) w w := Evo.refl _ _ _
  refine rg_plain_seq (n := 23) (rs := []) (own0 := (fun _ => 0)) (K := [])
      (bs := [0, 0, 0])
      (ds := [⟨[], [0], [], Fct.blk 30 1 (fun g => .pointer (some ⟨g, 0, none⟩)) 27 #[.int .i64 t1.1, .int .i64 t1.2.1, .int .i64 t1.2.2]⟩,
      ⟨[], [], [], Fct.blk 32 2 (fun g => .pointer (some ⟨g, 0, none⟩)) 27 #[.int .i64 0, .int .i64 0, .int .i64 0]⟩,
      ⟨[], [], [], Fct.val 3 (.bool false)⟩]) (by kernel_rfl) hz0 hd0 (fun _ h => nomatch h) ?_ ?_
  · refine steps_cons (fun own a wx hf hsl hE => ?_) ?_
    · obtain ⟨s_0, -⟩ := hsl
      exact sg_plain rfl rfl (or_new [(0, .agg #[.int .i64 t1.1, .int .i64 t1.2.1, .int .i64 t1.2.2])] rfl rfl ⟨(s_0.trans ha0), trivial⟩ (by kernel_rfl))
    refine steps_cons (fun own a wx hf hsl hE => ?_) ?_
    · exact sg_plain rfl rfl (or_new [] rfl rfl trivial (by kernel_rfl))
    refine steps_cons (fun own a wx hf hsl hE => ?_) ?_
    · exact sg_plain rfl rfl (or_assign rfl)
    exact steps_nil
  intro own33 a33 w33 hd33 hz33 hk33 hf33 hE33
  obtain ⟨⟨g29, (f_1 : a33.eval (.tmp 1) = .pointer (some ⟨g29, 0, none⟩)), (b_g29 : BlkO own33 30 w33 g29 27 #[.int .i64 t1.1, .int .i64 t1.2.1, .int .i64 t1.2.2])⟩, ⟨g31, (f_2 : a33.eval (.tmp 2) = .pointer (some ⟨g31, 0, none⟩)), (b_g31 : BlkO own33 32 w33 g31 27 #[.int .i64 0, .int .i64 0, .int .i64 0])⟩, -⟩ := hf33 [0, 1] rfl
  have e33_1 := f_1
  have e33_2 := f_2
  have hX33 := Evo.step hE0 (fun _ => Nat.le_refl 0) hE33 rfl
  have b33_g29 := b_g29
  have b33_g31 := b_g31
  refine fl_seq (fun Q34 hn34 hp34 => ?_)
  obtain ⟨r35, hr35, hs⟩ := obind hs
  obtain ⟨x36, hx36, hs⟩ := obind hs
  refine rg_plain_seq (n := 23) (rs := []) (own0 := own33) (K := [])
      (bs := [0, 0, 3, 7, 15, 31, 63, 127])
      (ds := [⟨[], [1], [], Fct.val 4 (.agg #[.int .i64 t1.1, .int .i64 t1.2.1, .int .i64 t1.2.2])⟩,
      ⟨[], [], [], Fct.val 5 (.agg #[.int .i64 0, .int .i64 0, .int .i64 0])⟩,
      ⟨[0, 1], [], [], Fct.val 6 (.bool (decide (t1 = (0, 0, 0))))⟩,
      ⟨[2], [], [], Fct.val 7 (.bool (decide (t1 = (0, 0, 0))))⟩,
      ⟨[3], [1], [], Fct.cond (!(decide (t1 = (0, 0, 0)))) (some 8) (Fct.val 8 (.agg #[.int .i64 t1.1, .int .i64 t1.2.1, .int .i64 t1.2.2]))⟩,
      ⟨[3, 4], [], [], Fct.cond (!(decide (t1 = (0, 0, 0)))) (some 9) (Fct.val 9 (.bool r35))⟩,
      ⟨[3, 5], [], [], Fct.cond (!(decide (t1 = (0, 0, 0)))) (some 10) (Fct.val 10 (.bool (!r35)))⟩,
      ⟨[3, 6], [], [], Fct.val 11 (.bool x36)⟩]) (by kernel_rfl) hz33 hd33 (fun _ h => nomatch h) ?_ ?_
  · refine steps_cons (fun own a wx hf hsl hE => ?_) ?_
    · obtain ⟨s_1, -⟩ := hsl
      exact sg_plain rfl rfl (or_load (l := [.int .i64 t1.1, .int .i64 t1.2.1, .int .i64 t1.2.2]) ta27 (s_1.trans e33_1) (Blk.cellsFrom (BlkO.evo (by decide) hE b33_g29).2 0 rfl) rfl)
    refine steps_cons (fun own a wx hf hsl hE => ?_) ?_
    · exact sg_plain rfl rfl (or_k [] rfl rfl trivial (by kernel_rfl))
    refine steps_cons (fun own a wx hf hsl hE => ?_) ?_
    · obtain ⟨(f_4 : a.eval (.tmp 4) = .agg #[.int .i64 t1.1, .int .i64 t1.2.1, .int .i64 t1.2.2]), (f_5 : a.eval (.tmp 5) = .agg #[.int .i64 0, .int .i64 0, .int .i64 0]), -⟩ := hf
      exact sg_plain rfl rfl (or_eqlA sg27 f_4 f_5 (se27 t1.1 t1.2.1 t1.2.2 0 0 0 _) rfl)
    refine steps_cons (fun own a wx hf hsl hE => ?_) ?_
    · obtain ⟨(f_6 : a.eval (.tmp 6) = .bool (decide (t1 = (0, 0, 0)))), -⟩ := hf
      exact sg_plain rfl rfl (or_move f_6)
    refine steps_cons (fun own a wx hf hsl hE => ?_) ?_
    · obtain ⟨(f_7 : a.eval (.tmp 7) = .bool (decide (t1 = (0, 0, 0)))), -⟩ := hf
      obtain ⟨s_1, -⟩ := hsl
      refine sg_f rfl rfl rfl f_7 (fun hg => ?_)
      exact or_load (l := [.int .i64 t1.1, .int .i64 t1.2.1, .int .i64 t1.2.2]) ta27 (s_1.trans e33_1) (Blk.cellsFrom (BlkO.evo (by decide) hE b33_g29).2 0 rfl) rfl
    refine steps_cons (fun own a wx hf hsl hE => ?_) ?_
    · obtain ⟨(f_7 : a.eval (.tmp 7) = .bool (decide (t1 = (0, 0, 0)))), c_8, -⟩ := hf
      refine sg_f rfl rfl rfl f_7 (fun hg => ?_)
      have f_8 : a.eval (.tmp 8) = .agg #[.int .i64 t1.1, .int .i64 t1.2.1, .int .i64 t1.2.2] := c_8.1 hg
      exact or_call cf20 (args1 f_8) (window_Right_w _ t1  r35 (gd_t hr35 hg)) post_val
    refine steps_cons (fun own a wx hf hsl hE => ?_) ?_
    · obtain ⟨(f_7 : a.eval (.tmp 7) = .bool (decide (t1 = (0, 0, 0)))), c_9, -⟩ := hf
      refine sg_f rfl rfl rfl f_7 (fun hg => ?_)
      have f_9 : a.eval (.tmp 9) = .bool r35 := c_9.1 hg
      exact or_not f_9 rfl
    refine steps_cons (fun own a wx hf hsl hE => ?_) ?_
    · obtain ⟨(f_7 : a.eval (.tmp 7) = .bool (decide (t1 = (0, 0, 0)))), c_10, -⟩ := hf
      exact sg_plain rfl rfl (or_or f_7 rfl (fun hx => c_10.1 hx) (osome hx36).symm)
    exact steps_nil
  intro own37 a37 w37 hd37 hz37 hk37 hf37 hE37
  have e37_1 : a37.eval (.tmp 1) = .pointer (some ⟨g29, 0, none⟩) := (hk37 1 rfl).trans e33_1
  have e37_2 : a37.eval (.tmp 2) = .pointer (some ⟨g31, 0, none⟩) := (hk37 2 rfl).trans e33_2
  obtain ⟨(f_11 : a37.eval (.tmp 11) = .bool x36), -⟩ := hf37 [7] rfl
  have e37_11 := f_11
  have hX37 := Evo.step hX33 (fun _ => Nat.le_refl 0) hE37 rfl
  have b37_g29 := BlkO.evo (by decide) hE37 b33_g29
  have b37_g31 := BlkO.evo (by decide) hE37 b33_g31
  refine fl_cond e37_11 hs (fun c38 hs => ?_) (fun c38 hs => ?_)
  · refine rg_plain_seq (n := 23) (rs := [Fct.at_ 32 g31 27 #[.int .i64 0, .int .i64 0, .int .i64 0]]) (own0 := own37) (K := [32])
        (bs := [0, 1, 3])
        (ds := [⟨[], [], [], Fct.val 12 (.agg #[.int .i64 0, .int .i64 0, .int .i64 0])⟩,
        ⟨[0, 3], [2], [32], Fct.at_ 39 g31 27 #[.int .i64 0, .int .i64 0, .int .i64 0]⟩,
        ⟨[], [], [], Fct.val 3 (.bool false)⟩]) (by kernel_rfl) hz37 hd37 (by simp only [List.forall_mem_cons]; exact ⟨b37_g31, fun _ h => nomatch h⟩) ?_ ?_
    · refine steps_cons (fun own a wx hf hsl hE => ?_) ?_
      · exact sg_plain rfl rfl (or_k [] rfl rfl trivial (by kernel_rfl))
      refine steps_cons (fun own a wx hf hsl hE => ?_) ?_
      · obtain ⟨(f_12 : a.eval (.tmp 12) = .agg #[.int .i64 0, .int .i64 0, .int .i64 0]), (b_g31 : BlkO own 32 wx g31 27 #[.int .i64 0, .int .i64 0, .int .i64 0]), -⟩ := hf
        obtain ⟨s_2, -⟩ := hsl
        exact sg_plain rfl rfl (or_store (l := #[.int .i64 0, .int .i64 0, .int .i64 0]) (lab := 32) (lab2 := 39) ts27 (s_2.trans e37_2) f_12 b_g31 (by simp) (by kernel_rfl) (mem_of rfl) (by decide) (by kernel_rfl) (fun own' a' w' ha hb => hb))
      refine steps_cons (fun own a wx hf hsl hE => ?_) ?_
      · exact sg_plain rfl rfl (or_assign rfl)
      exact steps_nil
    intro own40 a40 w40 hd40 hz40 hk40 hf40 hE40
    have e40_2 : a40.eval (.tmp 2) = .pointer (some ⟨g31, 0, none⟩) := (hk40 2 rfl).trans e37_2
    obtain ⟨(f_3 : a40.eval (.tmp 3) = .bool false), (b_g31 : BlkO own40 39 w40 g31 27 #[.int .i64 0, .int .i64 0, .int .i64 0]), -⟩ := hf40 [2, 1] rfl
    have e40_3 := f_3
    have hX40 := Evo.step hX37 (fun _ => Nat.le_refl 0) hE40 rfl
    have b40_g31 := b_g31
    refine fl_ret ?_
    refine hp34 _ _ _ rfl ?_
    obtain rfl := osome hs
    exact hret _ _ _ _ (.inl rfl) hd40 (results2_ rfl (RVal.cell_ e40_2 (run_loadVarAgg (l := [.int .i64 0, .int .i64 0, .int .i64 0]) ta27 (Blk.cellsFrom b40_g31.2 0 rfl) rfl)) (RVal.tmp_ e40_3)) ⟨own40, rfl, hX40⟩
  refine fl_skip ?_
  refine hn34 _ _ ?_
  obtain ⟨x43, hx43, hs⟩ := obind hs
  obtain ⟨x44, hx44, hs⟩ := obind hs
  refine rg_plain_seq (n := 23) (rs := [Fct.at_ 32 g31 27 #[.int .i64 0, .int .i64 0, .int .i64 0]]) (own0 := own37) (K := [32])
      (bs := [0, 1, 3, 0, 8, 24, 0, 64, 192, 511, 1023, 2047])
      (ds := [⟨[], [1], [], Fct.val 13 (.pointer (some ⟨g29, 0, none⟩))⟩,
      ⟨[0], [], [], Fct.val 14 (.int .i64 t1.1)⟩,
      ⟨[1], [], [], Fct.val 15 (.int .i64 (sb t1.1 1))⟩,
      ⟨[], [1], [], Fct.val 16 (.pointer (some ⟨g29, 1, none⟩))⟩,
      ⟨[3], [], [], Fct.val 17 (.int .i64 t1.2.1)⟩,
      ⟨[4], [], [], Fct.val 18 (.int .i64 x43)⟩,
      ⟨[], [1], [], Fct.val 19 (.pointer (some ⟨g29, 2, none⟩))⟩,
      ⟨[6], [], [], Fct.val 20 (.int .i64 t1.2.2)⟩,
      ⟨[7], [], [], Fct.val 21 (.int .i64 x44)⟩,
      ⟨[2, 5, 8], [], [], Fct.val 22 (.agg #[.int .i64 (sb t1.1 1), .int .i64 x43, .int .i64 x44])⟩,
      ⟨[9, 12], [2], [32], Fct.at_ 45 g31 27 #[.int .i64 (sb t1.1 1), .int .i64 x43, .int .i64 x44]⟩,
      ⟨[], [], [], Fct.val 3 (.bool true)⟩]) (by kernel_rfl) hz37 hd37 (by simp only [List.forall_mem_cons]; exact ⟨b37_g31, fun _ h => nomatch h⟩) ?_ ?_
  · refine steps_cons (fun own a wx hf hsl hE => ?_) ?_
    · obtain ⟨s_1, -⟩ := hsl
      exact sg_plain rfl rfl (or_field fo27_0 (s_1.trans e37_1) (by rfl))
    refine steps_cons (fun own a wx hf hsl hE => ?_) ?_
    · obtain ⟨(f_13 : a.eval (.tmp 13) = .pointer (some ⟨g29, 0, none⟩)), -⟩ := hf
      exact sg_plain rfl rfl (or_load1 to3 f_13 (Blk.at_ (BlkO.evo (by decide) hE b37_g29).2 0 rfl))
    refine steps_cons (fun own a wx hf hsl hE => ?_) ?_
    · obtain ⟨(f_14 : a.eval (.tmp 14) = .int .i64 t1.1), -⟩ := hf
      exact sg_plain rfl rfl (or_sub f_14 rfl rfl)
    refine steps_cons (fun own a wx hf hsl hE => ?_) ?_
    · obtain ⟨s_1, -⟩ := hsl
      exact sg_plain rfl rfl (or_field fo27_1 (s_1.trans e37_1) (by rfl))
    refine steps_cons (fun own a wx hf hsl hE => ?_) ?_
    · obtain ⟨(f_16 : a.eval (.tmp 16) = .pointer (some ⟨g29, 1, none⟩)), -⟩ := hf
      exact sg_plain rfl rfl (or_load1 to3 f_16 (Blk.at_ (BlkO.evo (by decide) hE b37_g29).2 1 rfl))
    refine steps_cons (fun own a wx hf hsl hE => ?_) ?_
    · obtain ⟨(f_17 : a.eval (.tmp 17) = .int .i64 t1.2.1), -⟩ := hf
      exact sg_plain rfl rfl (or_quo f_17 rfl hx43)
    refine steps_cons (fun own a wx hf hsl hE => ?_) ?_
    · obtain ⟨s_1, -⟩ := hsl
      exact sg_plain rfl rfl (or_field fo27_2 (s_1.trans e37_1) (by rfl))
    refine steps_cons (fun own a wx hf hsl hE => ?_) ?_
    · obtain ⟨(f_19 : a.eval (.tmp 19) = .pointer (some ⟨g29, 2, none⟩)), -⟩ := hf
      exact sg_plain rfl rfl (or_load1 to3 f_19 (Blk.at_ (BlkO.evo (by decide) hE b37_g29).2 2 rfl))
    refine steps_cons (fun own a wx hf hsl hE => ?_) ?_
    · obtain ⟨(f_20 : a.eval (.tmp 20) = .int .i64 t1.2.2), -⟩ := hf
      exact sg_plain rfl rfl (or_quo f_20 rfl hx44)
    refine steps_cons (fun own a wx hf hsl hE => ?_) ?_
    · obtain ⟨(f_15 : a.eval (.tmp 15) = .int .i64 (sb t1.1 1)), (f_18 : a.eval (.tmp 18) = .int .i64 x43), (f_21 : a.eval (.tmp 21) = .int .i64 x44), -⟩ := hf
      exact sg_plain rfl rfl (or_k [(15, .int .i64 (sb t1.1 1)), (18, .int .i64 x43), (21, .int .i64 x44)] rfl rfl ⟨f_15, f_18, f_21, trivial⟩ (by kernel_rfl))
    refine steps_cons (fun own a wx hf hsl hE => ?_) ?_
    · obtain ⟨(f_22 : a.eval (.tmp 22) = .agg #[.int .i64 (sb t1.1 1), .int .i64 x43, .int .i64 x44]), (b_g31 : BlkO own 32 wx g31 27 #[.int .i64 0, .int .i64 0, .int .i64 0]), -⟩ := hf
      obtain ⟨s_2, -⟩ := hsl
      exact sg_plain rfl rfl (or_store (l := #[.int .i64 (sb t1.1 1), .int .i64 x43, .int .i64 x44]) (lab := 32) (lab2 := 45) ts27 (s_2.trans e37_2) f_22 b_g31 (by simp) (by kernel_rfl) (mem_of rfl) (by decide) (by kernel_rfl) (fun own' a' w' ha hb => hb))
    refine steps_cons (fun own a wx hf hsl hE => ?_) ?_
    · exact sg_plain rfl rfl (or_assign rfl)
    exact steps_nil
  intro own46 a46 w46 hd46 hz46 hk46 hf46 hE46
  have e46_2 : a46.eval (.tmp 2) = .pointer (some ⟨g31, 0, none⟩) := (hk46 2 rfl).trans e37_2
  obtain ⟨(f_3 : a46.eval (.tmp 3) = .bool true), (b_g31 : BlkO own46 45 w46 g31 27 #[.int .i64 (sb t1.1 1), .int .i64 x43, .int .i64 x44]), -⟩ := hf46 [11, 10] rfl
  have e46_3 := f_3
  have hX46 := Evo.step hX37 (fun _ => Nat.le_refl 0) hE46 rfl
  have b46_g31 := b_g31
  refine fl_ret ?_
  obtain rfl := osome hs
  exact hret _ _ _ _ (.inl rfl) hd46 (results2_ rfl (RVal.cell_ e46_2 (run_loadVarAgg (l := [.int .i64 (sb t1.1 1), .int .i64 x43, .int .i64 x44]) ta27 (Blk.cellsFrom b46_g31.2 0 rfl) rfl)) (RVal.tmp_ e46_3)) ⟨own46, rfl, hX46⟩

end Go.Proofs.Ytehmjkdgakinbaa
