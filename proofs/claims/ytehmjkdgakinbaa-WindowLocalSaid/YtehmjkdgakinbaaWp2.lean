/-
  Chapter 20. The walks.
-/
import Derived.Test.YtehmjkdgakinbaaWp1
import Derived.Test.YtehmjkdgakinbaaSp2
namespace Go.Proofs.Ytehmjkdgakinbaa
open Go.RowKit
set_option linter.unusedVariables false
theorem window_Right_w (w : World) (t1 : Int × Int × Int) (r : Bool) (hs : window_Right t1 = some r) :
    Calls Try.prog 20 #[.agg #[.int .i64 t1.1, .int .i64 t1.2.1, .int .i64 t1.2.2]] w fun e w' => ∃ own' : Own, e = .returned (.bool r) ∧ Evo [] (fun _ => 0) own' w w' := by
  refine fl_enter (n := 27) rfl rfl rfl (Nat.le_of_ble_eq_true rfl) ?_
  intro a0 Q hd0 hz0 harg hret
  have ha0 := harg 0 _ rfl
  clear harg
  have hE0 : Evo [] (fun _ => 0) (fun _ => 0) w w := Evo.refl _ _ _
  refine rg_plain_seq (n := 27) (rs := []) (own0 := (fun _ => 0)) (K := [])
      (bs := [0, 0])
      (ds := [⟨[], [0], [], Fct.blk 20 1 (fun g => .pointer (some ⟨g, 0, none⟩)) 27 #[.int .i64 t1.1, .int .i64 t1.2.1, .int .i64 t1.2.2]⟩,
      ⟨[], [], [], Fct.val 2 (.bool false)⟩]) (by kernel_rfl) hz0 hd0 (fun _ h => nomatch h) ?_ ?_
  · refine steps_cons (fun own a wx hf hsl hE => ?_) ?_
    · obtain ⟨s_0, -⟩ := hsl
      exact sg_plain rfl rfl (or_new [(0, .agg #[.int .i64 t1.1, .int .i64 t1.2.1, .int .i64 t1.2.2])] rfl rfl ⟨(s_0.trans ha0), trivial⟩ (by kernel_rfl))
    refine steps_cons (fun own a wx hf hsl hE => ?_) ?_
    · exact sg_plain rfl rfl (or_assign rfl)
    exact steps_nil
  intro own21 a21 w21 hd21 hz21 hk21 hf21 hE21
  obtain ⟨⟨g19, (f_1 : a21.eval (.tmp 1) = .pointer (some ⟨g19, 0, none⟩)), (b_g19 : BlkO own21 20 w21 g19 27 #[.int .i64 t1.1, .int .i64 t1.2.1, .int .i64 t1.2.2])⟩, -⟩ := hf21 [0] rfl
  have e21_1 := f_1
  have hX21 := Evo.step hE0 (fun _ => Nat.le_refl 0) hE21 rfl
  have b21_g19 := b_g19
  obtain ⟨r22, hr22, hs⟩ := obind hs
  refine rg_plain_seq (n := 27) (rs := []) (own0 := own21) (K := [])
      (bs := [0, 1, 3, 7])
      (ds := [⟨[], [1], [], Fct.val 4 (.pointer (some ⟨g19, 0, none⟩))⟩,
      ⟨[0], [], [], Fct.val 5 (.int .i64 t1.1)⟩,
      ⟨[1], [], [], Fct.val 6 (.int .i64 r22)⟩,
      ⟨[2], [], [], Fct.val 3 (.int .i64 r22)⟩]) (by kernel_rfl) hz21 hd21 (fun _ h => nomatch h) ?_ ?_
  · refine steps_cons (fun own a wx hf hsl hE => ?_) ?_
    · obtain ⟨s_1, -⟩ := hsl
      exact sg_plain rfl rfl (or_field fo27_0 (s_1.trans e21_1) (by rfl))
    refine steps_cons (fun own a wx hf hsl hE => ?_) ?_
    · obtain ⟨(f_4 : a.eval (.tmp 4) = .pointer (some ⟨g19, 0, none⟩)), -⟩ := hf
      exact sg_plain rfl rfl (or_load1 to3 f_4 (Blk.at_ (BlkO.evo (by decide) hE b21_g19).2 0 rfl))
    refine steps_cons (fun own a wx hf hsl hE => ?_) ?_
    · obtain ⟨(f_5 : a.eval (.tmp 5) = .int .i64 t1.1), -⟩ := hf
      exact sg_plain rfl rfl (or_call cf32 (args1 f_5) (window_count_w _ t1.1  r22 hr22) post_val)
    refine steps_cons (fun own a wx hf hsl hE => ?_) ?_
    · obtain ⟨(f_6 : a.eval (.tmp 6) = .int .i64 r22), -⟩ := hf
      exact sg_plain rfl rfl (or_assign f_6)
    exact steps_nil
  intro own23 a23 w23 hd23 hz23 hk23 hf23 hE23
  have e23_1 : a23.eval (.tmp 1) = .pointer (some ⟨g19, 0, none⟩) := (hk23 1 rfl).trans e21_1
  obtain ⟨(f_3 : a23.eval (.tmp 3) = .int .i64 r22), -⟩ := hf23 [3] rfl
  have e23_3 := f_3
  have hX23 := Evo.step hX21 (fun _ => Nat.le_refl 0) hE23 rfl
  have b23_g19 := BlkO.evo (by decide) hE23 b21_g19
  obtain ⟨x24, hx24, hs⟩ := obind hs
  obtain ⟨x25, hx25, hs⟩ := obind hs
  refine rg_plain_seq (n := 27) (rs := []) (own0 := own23) (K := [])
      (bs := [0, 1, 3, 7, 15, 31, 15, 127, 255, 511, 1023, 2047, 4095, 8191, 16383, 32767, 65535, 32767, 262143, 524287, 1048575])
      (ds := [⟨[], [1], [], Fct.val 7 (.pointer (some ⟨g19, 1, none⟩))⟩,
      ⟨[0], [], [], Fct.val 8 (.int .i64 t1.2.1)⟩,
      ⟨[1], [], [], Fct.val 9 (.bool (decide (0 ≤ t1.2.1)))⟩,
      ⟨[2], [], [], Fct.val 10 (.bool (decide (0 ≤ t1.2.1)))⟩,
      ⟨[3], [1], [], Fct.cond (decide (0 ≤ t1.2.1)) (some 11) (Fct.val 11 (.pointer (some ⟨g19, 1, none⟩)))⟩,
      ⟨[3, 4], [], [], Fct.cond (decide (0 ≤ t1.2.1)) (some 12) (Fct.val 12 (.int .i64 t1.2.1))⟩,
      ⟨[3], [3], [], Fct.cond (decide (0 ≤ t1.2.1)) (some 13) (Fct.val 13 (.int .i64 r22))⟩,
      ⟨[3, 5, 6], [], [], Fct.cond (decide (0 ≤ t1.2.1)) (some 14) (Fct.val 14 (.bool (decide (t1.2.1 < r22))))⟩,
      ⟨[3, 7], [], [], Fct.val 15 (.bool x24)⟩,
      ⟨[8], [], [], Fct.val 16 (.bool x24)⟩,
      ⟨[9], [1], [], Fct.cond x24 (some 17) (Fct.val 17 (.pointer (some ⟨g19, 2, none⟩)))⟩,
      ⟨[9, 10], [], [], Fct.cond x24 (some 18) (Fct.val 18 (.int .i64 t1.2.2))⟩,
      ⟨[9, 11], [], [], Fct.cond x24 (some 19) (Fct.val 19 (.bool (decide (0 ≤ t1.2.2))))⟩,
      ⟨[9, 12], [], [], Fct.val 20 (.bool (x24 && (decide (0 ≤ t1.2.2))))⟩,
      ⟨[13], [], [], Fct.val 21 (.bool (x24 && (decide (0 ≤ t1.2.2))))⟩,
      ⟨[14], [1], [], Fct.cond (x24 && (decide (0 ≤ t1.2.2))) (some 22) (Fct.val 22 (.pointer (some ⟨g19, 2, none⟩)))⟩,
      ⟨[14, 15], [], [], Fct.cond (x24 && (decide (0 ≤ t1.2.2))) (some 23) (Fct.val 23 (.int .i64 t1.2.2))⟩,
      ⟨[14], [3], [], Fct.cond (x24 && (decide (0 ≤ t1.2.2))) (some 24) (Fct.val 24 (.int .i64 r22))⟩,
      ⟨[14, 16, 17], [], [], Fct.cond (x24 && (decide (0 ≤ t1.2.2))) (some 25) (Fct.val 25 (.bool (decide (t1.2.2 < r22))))⟩,
      ⟨[14, 18], [], [], Fct.val 26 (.bool x25)⟩,
      ⟨[19], [], [], Fct.val 2 (.bool x25)⟩]) (by kernel_rfl) hz23 hd23 (fun _ h => nomatch h) ?_ ?_
  · refine steps_cons (fun own a wx hf hsl hE => ?_) ?_
    · obtain ⟨s_1, -⟩ := hsl
      exact sg_plain rfl rfl (or_field fo27_1 (s_1.trans e23_1) (by rfl))
    refine steps_cons (fun own a wx hf hsl hE => ?_) ?_
    · obtain ⟨(f_7 : a.eval (.tmp 7) = .pointer (some ⟨g19, 1, none⟩)), -⟩ := hf
      exact sg_plain rfl rfl (or_load1 to3 f_7 (Blk.at_ (BlkO.evo (by decide) hE b23_g19).2 1 rfl))
    refine steps_cons (fun own a wx hf hsl hE => ?_) ?_
    · obtain ⟨(f_8 : a.eval (.tmp 8) = .int .i64 t1.2.1), -⟩ := hf
      exact sg_plain rfl rfl (or_geq f_8 rfl rfl)
    refine steps_cons (fun own a wx hf hsl hE => ?_) ?_
    · obtain ⟨(f_9 : a.eval (.tmp 9) = .bool (decide (0 ≤ t1.2.1))), -⟩ := hf
      exact sg_plain rfl rfl (or_move f_9)
    refine steps_cons (fun own a wx hf hsl hE => ?_) ?_
    · obtain ⟨(f_10 : a.eval (.tmp 10) = .bool (decide (0 ≤ t1.2.1))), -⟩ := hf
      obtain ⟨s_1, -⟩ := hsl
      refine sg_t rfl rfl rfl f_10 (fun hg => ?_)
      exact or_field fo27_1 (s_1.trans e23_1) (by rfl)
    refine steps_cons (fun own a wx hf hsl hE => ?_) ?_
    · obtain ⟨(f_10 : a.eval (.tmp 10) = .bool (decide (0 ≤ t1.2.1))), c_11, -⟩ := hf
      refine sg_t rfl rfl rfl f_10 (fun hg => ?_)
      have f_11 : a.eval (.tmp 11) = .pointer (some ⟨g19, 1, none⟩) := c_11.1 hg
      exact or_load1 to3 f_11 (Blk.at_ (BlkO.evo (by decide) hE b23_g19).2 1 rfl)
    refine steps_cons (fun own a wx hf hsl hE => ?_) ?_
    · obtain ⟨(f_10 : a.eval (.tmp 10) = .bool (decide (0 ≤ t1.2.1))), -⟩ := hf
      obtain ⟨s_3, -⟩ := hsl
      refine sg_t rfl rfl rfl f_10 (fun hg => ?_)
      exact or_move (s_3.trans e23_3)
    refine steps_cons (fun own a wx hf hsl hE => ?_) ?_
    · obtain ⟨(f_10 : a.eval (.tmp 10) = .bool (decide (0 ≤ t1.2.1))), c_12, c_13, -⟩ := hf
      refine sg_t rfl rfl rfl f_10 (fun hg => ?_)
      have f_12 : a.eval (.tmp 12) = .int .i64 t1.2.1 := c_12.1 hg
      have f_13 : a.eval (.tmp 13) = .int .i64 r22 := c_13.1 hg
      exact or_lss f_12 f_13 rfl
    refine steps_cons (fun own a wx hf hsl hE => ?_) ?_
    · obtain ⟨(f_10 : a.eval (.tmp 10) = .bool (decide (0 ≤ t1.2.1))), c_14, -⟩ := hf
      exact sg_plain rfl rfl (or_and f_10 (fun hx => c_14.1 hx) rfl (osome hx24).symm)
    refine steps_cons (fun own a wx hf hsl hE => ?_) ?_
    · obtain ⟨(f_15 : a.eval (.tmp 15) = .bool x24), -⟩ := hf
      exact sg_plain rfl rfl (or_move f_15)
    refine steps_cons (fun own a wx hf hsl hE => ?_) ?_
    · obtain ⟨(f_16 : a.eval (.tmp 16) = .bool x24), -⟩ := hf
      obtain ⟨s_1, -⟩ := hsl
      refine sg_t rfl rfl rfl f_16 (fun hg => ?_)
      exact or_field fo27_2 (s_1.trans e23_1) (by rfl)
    refine steps_cons (fun own a wx hf hsl hE => ?_) ?_
    · obtain ⟨(f_16 : a.eval (.tmp 16) = .bool x24), c_17, -⟩ := hf
      refine sg_t rfl rfl rfl f_16 (fun hg => ?_)
      have f_17 : a.eval (.tmp 17) = .pointer (some ⟨g19, 2, none⟩) := c_17.1 hg
      exact or_load1 to3 f_17 (Blk.at_ (BlkO.evo (by decide) hE b23_g19).2 2 rfl)
    refine steps_cons (fun own a wx hf hsl hE => ?_) ?_
    · obtain ⟨(f_16 : a.eval (.tmp 16) = .bool x24), c_18, -⟩ := hf
      refine sg_t rfl rfl rfl f_16 (fun hg => ?_)
      have f_18 : a.eval (.tmp 18) = .int .i64 t1.2.2 := c_18.1 hg
      exact or_geq f_18 rfl rfl
    refine steps_cons (fun own a wx hf hsl hE => ?_) ?_
    · obtain ⟨(f_16 : a.eval (.tmp 16) = .bool x24), c_19, -⟩ := hf
      exact sg_plain rfl rfl (or_and f_16 (fun hx => c_19.1 hx) rfl rfl)
    refine steps_cons (fun own a wx hf hsl hE => ?_) ?_
    · obtain ⟨(f_20 : a.eval (.tmp 20) = .bool (x24 && (decide (0 ≤ t1.2.2)))), -⟩ := hf
      exact sg_plain rfl rfl (or_move f_20)
    refine steps_cons (fun own a wx hf hsl hE => ?_) ?_
    · obtain ⟨(f_21 : a.eval (.tmp 21) = .bool (x24 && (decide (0 ≤ t1.2.2)))), -⟩ := hf
      obtain ⟨s_1, -⟩ := hsl
      refine sg_t rfl rfl rfl f_21 (fun hg => ?_)
      exact or_field fo27_2 (s_1.trans e23_1) (by rfl)
    refine steps_cons (fun own a wx hf hsl hE => ?_) ?_
    · obtain ⟨(f_21 : a.eval (.tmp 21) = .bool (x24 && (decide (0 ≤ t1.2.2)))), c_22, -⟩ := hf
      refine sg_t rfl rfl rfl f_21 (fun hg => ?_)
      have f_22 : a.eval (.tmp 22) = .pointer (some ⟨g19, 2, none⟩) := c_22.1 hg
      exact or_load1 to3 f_22 (Blk.at_ (BlkO.evo (by decide) hE b23_g19).2 2 rfl)
    refine steps_cons (fun own a wx hf hsl hE => ?_) ?_
    · obtain ⟨(f_21 : a.eval (.tmp 21) = .bool (x24 && (decide (0 ≤ t1.2.2)))), -⟩ := hf
      obtain ⟨s_3, -⟩ := hsl
      refine sg_t rfl rfl rfl f_21 (fun hg => ?_)
      exact or_move (s_3.trans e23_3)
    refine steps_cons (fun own a wx hf hsl hE => ?_) ?_
    · obtain ⟨(f_21 : a.eval (.tmp 21) = .bool (x24 && (decide (0 ≤ t1.2.2)))), c_23, c_24, -⟩ := hf
      refine sg_t rfl rfl rfl f_21 (fun hg => ?_)
      have f_23 : a.eval (.tmp 23) = .int .i64 t1.2.2 := c_23.1 hg
      have f_24 : a.eval (.tmp 24) = .int .i64 r22 := c_24.1 hg
      exact or_lss f_23 f_24 rfl
    refine steps_cons (fun own a wx hf hsl hE => ?_) ?_
    · obtain ⟨(f_21 : a.eval (.tmp 21) = .bool (x24 && (decide (0 ≤ t1.2.2)))), c_25, -⟩ := hf
      exact sg_plain rfl rfl (or_and f_21 (fun hx => c_25.1 hx) rfl (osome hx25).symm)
    refine steps_cons (fun own a wx hf hsl hE => ?_) ?_
    · obtain ⟨(f_26 : a.eval (.tmp 26) = .bool x25), -⟩ := hf
      exact sg_plain rfl rfl (or_assign f_26)
    exact steps_nil
  intro own26 a26 w26 hd26 hz26 hk26 hf26 hE26
  obtain ⟨(f_2 : a26.eval (.tmp 2) = .bool x25), -⟩ := hf26 [20] rfl
  have e26_2 := f_2
  have hX26 := Evo.step hX23 (fun _ => Nat.le_refl 0) hE26 rfl
  refine fl_ret ?_
  obtain rfl := (osome hs).symm
  exact hret _ _ _ _ (.inl rfl) hd26 (results1_ rfl (RVal.tmp_ e26_2)) ⟨own26, rfl, hX26⟩

theorem window_Window_w (w : World) (t1 : Int × Int × Int) (buffer2 : Int) (r : ((Int × Int) × (Int × Int)) × Bool) (hs : window_Window t1 buffer2 = some r) :
    Calls Try.prog 14 #[.agg #[.int .i64 t1.1, .int .i64 t1.2.1, .int .i64 t1.2.2], .int .i64 buffer2] w fun e w' => ∃ own' : Own, e = .returned (.tuple #[.agg #[.int .i64 r.1.1.1, .int .i64 r.1.1.2, .int .i64 r.1.2.1, .int .i64 r.1.2.2], .bool r.2]) ∧ Evo [] (fun _ => 0) own' w w' := by
  refine fl_enter (n := 42) rfl rfl rfl (Nat.le_of_ble_eq_true rfl) ?_
  intro a0 Q hd0 hz0 harg hret
  have ha0 := harg 0 _ rfl
  have ha1 := harg 1 _ rfl
  clear harg
  have hE0 : Evo [] (fun _ => 0) (fun _ => 0) w w := Evo.refl _ _ _
  refine rg_plain_seq (n := 42) (rs := []) (own0 := (fun _ => 0)) (K := [])
      (bs := [0, 0, 0])
      (ds := [⟨[], [0], [], Fct.blk 35 2 (fun g => .pointer (some ⟨g, 0, none⟩)) 27 #[.int .i64 t1.1, .int .i64 t1.2.1, .int .i64 t1.2.2]⟩,
      ⟨[], [], [], Fct.blk 37 4 (fun g => .pointer (some ⟨g, 0, none⟩)) 25 #[.int .i64 0, .int .i64 0, .int .i64 0, .int .i64 0]⟩,
      ⟨[], [], [], Fct.val 5 (.bool false)⟩]) (by kernel_rfl) hz0 hd0 (fun _ h => nomatch h) ?_ ?_
  · refine steps_cons (fun own a wx hf hsl hE => ?_) ?_
    · obtain ⟨s_0, -⟩ := hsl
      exact sg_plain rfl rfl (or_new [(0, .agg #[.int .i64 t1.1, .int .i64 t1.2.1, .int .i64 t1.2.2])] rfl rfl ⟨(s_0.trans ha0), trivial⟩ (by kernel_rfl))
    refine steps_cons (fun own a wx hf hsl hE => ?_) ?_
    · exact sg_plain rfl rfl (or_new [] rfl rfl trivial (by kernel_rfl))
    refine steps_cons (fun own a wx hf hsl hE => ?_) ?_
    · exact sg_plain rfl rfl (or_assign rfl)
    exact steps_nil
  intro own38 a38 w38 hd38 hz38 hk38 hf38 hE38
  have e38_1 : a38.eval (.tmp 1) = .int .i64 buffer2 := (hk38 1 rfl).trans ha1
  obtain ⟨⟨g34, (f_2 : a38.eval (.tmp 2) = .pointer (some ⟨g34, 0, none⟩)), (b_g34 : BlkO own38 35 w38 g34 27 #[.int .i64 t1.1, .int .i64 t1.2.1, .int .i64 t1.2.2])⟩, ⟨g36, (f_4 : a38.eval (.tmp 4) = .pointer (some ⟨g36, 0, none⟩)), (b_g36 : BlkO own38 37 w38 g36 25 #[.int .i64 0, .int .i64 0, .int .i64 0, .int .i64 0])⟩, -⟩ := hf38 [0, 1] rfl
  have e38_2 := f_2
  have e38_4 := f_4
  have hX38 := Evo.step hE0 (fun _ => Nat.le_refl 0) hE38 rfl
  have b38_g34 := b_g34
  have b38_g36 := b_g36
  refine fl_seq (fun Q39 hn39 hp39 => ?_)
  obtain ⟨r40, hr40, hs⟩ := obind hs
  obtain ⟨r41, hr41, hs⟩ := obind hs
  refine rg_plain_seq (n := 42) (rs := []) (own0 := own38) (K := [])
      (bs := [0, 1, 3, 7, 15, 31, 63, 127])
      (ds := [⟨[], [2], [], Fct.val 8 (.agg #[.int .i64 t1.1, .int .i64 t1.2.1, .int .i64 t1.2.2])⟩,
      ⟨[0], [], [], Fct.val 9 (.bool r40)⟩,
      ⟨[1], [], [], Fct.val 10 (.bool (!r40))⟩,
      ⟨[2], [], [], Fct.val 11 (.bool (!r40))⟩,
      ⟨[3], [1], [], Fct.cond (!(!r40)) (some 12) (Fct.val 12 (.int .i64 buffer2))⟩,
      ⟨[3, 4], [], [], Fct.cond (!(!r40)) (some 13) (Fct.val 13 (.bool r41))⟩,
      ⟨[3, 5], [], [], Fct.cond (!(!r40)) (some 14) (Fct.val 14 (.bool (!r41)))⟩,
      ⟨[3, 6], [], [], Fct.val 15 (.bool ((!r40) || (!r41)))⟩]) (by kernel_rfl) hz38 hd38 (fun _ h => nomatch h) ?_ ?_
  · refine steps_cons (fun own a wx hf hsl hE => ?_) ?_
    · obtain ⟨s_2, -⟩ := hsl
      exact sg_plain rfl rfl (or_load (l := [.int .i64 t1.1, .int .i64 t1.2.1, .int .i64 t1.2.2]) ta27 (s_2.trans e38_2) (Blk.cellsFrom (BlkO.evo (by decide) hE b38_g34).2 0 rfl) rfl)
    refine steps_cons (fun own a wx hf hsl hE => ?_) ?_
    · obtain ⟨(f_8 : a.eval (.tmp 8) = .agg #[.int .i64 t1.1, .int .i64 t1.2.1, .int .i64 t1.2.2]), -⟩ := hf
      exact sg_plain rfl rfl (or_call cf20 (args1 f_8) (window_Right_w _ t1  r40 hr40) post_val)
    refine steps_cons (fun own a wx hf hsl hE => ?_) ?_
    · obtain ⟨(f_9 : a.eval (.tmp 9) = .bool r40), -⟩ := hf
      exact sg_plain rfl rfl (or_not f_9 rfl)
    refine steps_cons (fun own a wx hf hsl hE => ?_) ?_
    · obtain ⟨(f_10 : a.eval (.tmp 10) = .bool (!r40)), -⟩ := hf
      exact sg_plain rfl rfl (or_move f_10)
    refine steps_cons (fun own a wx hf hsl hE => ?_) ?_
    · obtain ⟨(f_11 : a.eval (.tmp 11) = .bool (!r40)), -⟩ := hf
      obtain ⟨s_1, -⟩ := hsl
      refine sg_f rfl rfl rfl f_11 (fun hg => ?_)
      exact or_move (s_1.trans e38_1)
    refine steps_cons (fun own a wx hf hsl hE => ?_) ?_
    · obtain ⟨(f_11 : a.eval (.tmp 11) = .bool (!r40)), c_12, -⟩ := hf
      refine sg_f rfl rfl rfl f_11 (fun hg => ?_)
      have f_12 : a.eval (.tmp 12) = .int .i64 buffer2 := c_12.1 hg
      exact or_call cf34 (args1 f_12) (window_buffered_w _ buffer2  r41 (gd_t hr41 hg)) post_val
    refine steps_cons (fun own a wx hf hsl hE => ?_) ?_
    · obtain ⟨(f_11 : a.eval (.tmp 11) = .bool (!r40)), c_13, -⟩ := hf
      refine sg_f rfl rfl rfl f_11 (fun hg => ?_)
      have f_13 : a.eval (.tmp 13) = .bool r41 := c_13.1 hg
      exact or_not f_13 rfl
    refine steps_cons (fun own a wx hf hsl hE => ?_) ?_
    · obtain ⟨(f_11 : a.eval (.tmp 11) = .bool (!r40)), c_14, -⟩ := hf
      exact sg_plain rfl rfl (or_or f_11 rfl (fun hx => c_14.1 hx) rfl)
    exact steps_nil
  intro own42 a42 w42 hd42 hz42 hk42 hf42 hE42
  have e42_1 : a42.eval (.tmp 1) = .int .i64 buffer2 := (hk42 1 rfl).trans e38_1
  have e42_2 : a42.eval (.tmp 2) = .pointer (some ⟨g34, 0, none⟩) := (hk42 2 rfl).trans e38_2
  have e42_4 : a42.eval (.tmp 4) = .pointer (some ⟨g36, 0, none⟩) := (hk42 4 rfl).trans e38_4
  obtain ⟨(f_15 : a42.eval (.tmp 15) = .bool ((!r40) || (!r41))), -⟩ := hf42 [7] rfl
  have e42_15 := f_15
  have hX42 := Evo.step hX38 (fun _ => Nat.le_refl 0) hE42 rfl
  have b42_g34 := BlkO.evo (by decide) hE42 b38_g34
  have b42_g36 := BlkO.evo (by decide) hE42 b38_g36
  refine fl_cond e42_15 hs (fun c43 hs => ?_) (fun c43 hs => ?_)
  · refine rg_plain_seq (n := 42) (rs := [Fct.at_ 37 g36 25 #[.int .i64 0, .int .i64 0, .int .i64 0, .int .i64 0]]) (own0 := own42) (K := [37])
        (bs := [0, 1, 3])
        (ds := [⟨[], [], [], Fct.val 16 (.agg #[.int .i64 0, .int .i64 0, .int .i64 0, .int .i64 0])⟩,
        ⟨[0, 3], [4], [37], Fct.at_ 44 g36 25 #[.int .i64 0, .int .i64 0, .int .i64 0, .int .i64 0]⟩,
        ⟨[], [], [], Fct.val 5 (.bool false)⟩]) (by kernel_rfl) hz42 hd42 (by simp only [List.forall_mem_cons]; exact ⟨b42_g36, fun _ h => nomatch h⟩) ?_ ?_
    · refine steps_cons (fun own a wx hf hsl hE => ?_) ?_
      · exact sg_plain rfl rfl (or_k [] rfl rfl trivial (by kernel_rfl))
      refine steps_cons (fun own a wx hf hsl hE => ?_) ?_
      · obtain ⟨(f_16 : a.eval (.tmp 16) = .agg #[.int .i64 0, .int .i64 0, .int .i64 0, .int .i64 0]), (b_g36 : BlkO own 37 wx g36 25 #[.int .i64 0, .int .i64 0, .int .i64 0, .int .i64 0]), -⟩ := hf
        obtain ⟨s_4, -⟩ := hsl
        exact sg_plain rfl rfl (or_store (l := #[.int .i64 0, .int .i64 0, .int .i64 0, .int .i64 0]) (lab := 37) (lab2 := 44) ts25 (s_4.trans e42_4) f_16 b_g36 (by simp) (by kernel_rfl) (mem_of rfl) (by decide) (by kernel_rfl) (fun own' a' w' ha hb => hb))
      refine steps_cons (fun own a wx hf hsl hE => ?_) ?_
      · exact sg_plain rfl rfl (or_assign rfl)
      exact steps_nil
    intro own45 a45 w45 hd45 hz45 hk45 hf45 hE45
    have e45_4 : a45.eval (.tmp 4) = .pointer (some ⟨g36, 0, none⟩) := (hk45 4 rfl).trans e42_4
    obtain ⟨(f_5 : a45.eval (.tmp 5) = .bool false), (b_g36 : BlkO own45 44 w45 g36 25 #[.int .i64 0, .int .i64 0, .int .i64 0, .int .i64 0]), -⟩ := hf45 [2, 1] rfl
    have e45_5 := f_5
    have hX45 := Evo.step hX42 (fun _ => Nat.le_refl 0) hE45 rfl
    have b45_g36 := b_g36
    refine fl_ret ?_
    refine hp39 _ _ _ rfl ?_
    obtain rfl := osome hs
    exact hret _ _ _ _ (.inl rfl) hd45 (results2_ rfl (RVal.cell_ e45_4 (run_loadVarAgg (l := [.int .i64 0, .int .i64 0, .int .i64 0, .int .i64 0]) ta25 (Blk.cellsFrom b45_g36.2 0 rfl) rfl)) (RVal.tmp_ e45_5)) ⟨own45, rfl, hX45⟩
  refine fl_skip ?_
  refine hn39 _ _ ?_
  refine rg_plain_seq (n := 42) (rs := []) (own0 := own42) (K := [47])
      (bs := [0, 1, 3, 0, 15, 0, 32, 96, 0, 480, 1023, 0, 4095])
      (ds := [⟨[], [2], [], Fct.val 17 (.pointer (some ⟨g34, 1, none⟩))⟩,
      ⟨[0], [], [], Fct.val 18 (.int .i64 t1.2.1)⟩,
      ⟨[1], [], [], Fct.val 19 (.int .i64 (ml 4096 t1.2.1))⟩,
      ⟨[], [1], [], Fct.val 20 (.int .i64 buffer2)⟩,
      ⟨[2, 3], [], [], Fct.val 21 (.int .i64 (sb (ml 4096 t1.2.1) buffer2))⟩,
      ⟨[], [2], [], Fct.val 22 (.pointer (some ⟨g34, 2, none⟩))⟩,
      ⟨[5], [], [], Fct.val 23 (.int .i64 t1.2.2)⟩,
      ⟨[6], [], [], Fct.val 24 (.int .i64 (ml 4096 t1.2.2))⟩,
      ⟨[], [1], [], Fct.val 25 (.int .i64 buffer2)⟩,
      ⟨[7, 8], [], [], Fct.val 26 (.int .i64 (sb (ml 4096 t1.2.2) buffer2))⟩,
      ⟨[4, 9], [], [], Fct.val 27 (.agg #[.int .i64 (sb (ml 4096 t1.2.1) buffer2), .int .i64 (sb (ml 4096 t1.2.2) buffer2)])⟩,
      ⟨[], [], [], Fct.blk 47 6 (fun g => .pointer (some ⟨g, 0, none⟩)) 23 #[.int .i64 0, .int .i64 0]⟩,
      ⟨[11, 10], [], [47], Fct.blk 48 6 (fun g => .pointer (some ⟨g, 0, none⟩)) 23 #[.int .i64 (sb (ml 4096 t1.2.1) buffer2), .int .i64 (sb (ml 4096 t1.2.2) buffer2)]⟩]) (by kernel_rfl) hz42 hd42 (fun _ h => nomatch h) ?_ ?_
  · refine steps_cons (fun own a wx hf hsl hE => ?_) ?_
    · obtain ⟨s_2, -⟩ := hsl
      exact sg_plain rfl rfl (or_field fo27_1 (s_2.trans e42_2) (by rfl))
    refine steps_cons (fun own a wx hf hsl hE => ?_) ?_
    · obtain ⟨(f_17 : a.eval (.tmp 17) = .pointer (some ⟨g34, 1, none⟩)), -⟩ := hf
      exact sg_plain rfl rfl (or_load1 to3 f_17 (Blk.at_ (BlkO.evo (by decide) hE b42_g34).2 1 rfl))
    refine steps_cons (fun own a wx hf hsl hE => ?_) ?_
    · obtain ⟨(f_18 : a.eval (.tmp 18) = .int .i64 t1.2.1), -⟩ := hf
      exact sg_plain rfl rfl (or_mul rfl f_18 rfl)
    refine steps_cons (fun own a wx hf hsl hE => ?_) ?_
    · obtain ⟨s_1, -⟩ := hsl
      exact sg_plain rfl rfl (or_move (s_1.trans e42_1))
    refine steps_cons (fun own a wx hf hsl hE => ?_) ?_
    · obtain ⟨(f_19 : a.eval (.tmp 19) = .int .i64 (ml 4096 t1.2.1)), (f_20 : a.eval (.tmp 20) = .int .i64 buffer2), -⟩ := hf
      exact sg_plain rfl rfl (or_sub f_19 f_20 rfl)
    refine steps_cons (fun own a wx hf hsl hE => ?_) ?_
    · obtain ⟨s_2, -⟩ := hsl
      exact sg_plain rfl rfl (or_field fo27_2 (s_2.trans e42_2) (by rfl))
    refine steps_cons (fun own a wx hf hsl hE => ?_) ?_
    · obtain ⟨(f_22 : a.eval (.tmp 22) = .pointer (some ⟨g34, 2, none⟩)), -⟩ := hf
      exact sg_plain rfl rfl (or_load1 to3 f_22 (Blk.at_ (BlkO.evo (by decide) hE b42_g34).2 2 rfl))
    refine steps_cons (fun own a wx hf hsl hE => ?_) ?_
    · obtain ⟨(f_23 : a.eval (.tmp 23) = .int .i64 t1.2.2), -⟩ := hf
      exact sg_plain rfl rfl (or_mul rfl f_23 rfl)
    refine steps_cons (fun own a wx hf hsl hE => ?_) ?_
    · obtain ⟨s_1, -⟩ := hsl
      exact sg_plain rfl rfl (or_move (s_1.trans e42_1))
    refine steps_cons (fun own a wx hf hsl hE => ?_) ?_
    · obtain ⟨(f_24 : a.eval (.tmp 24) = .int .i64 (ml 4096 t1.2.2)), (f_25 : a.eval (.tmp 25) = .int .i64 buffer2), -⟩ := hf
      exact sg_plain rfl rfl (or_sub f_24 f_25 rfl)
    refine steps_cons (fun own a wx hf hsl hE => ?_) ?_
    · obtain ⟨(f_21 : a.eval (.tmp 21) = .int .i64 (sb (ml 4096 t1.2.1) buffer2)), (f_26 : a.eval (.tmp 26) = .int .i64 (sb (ml 4096 t1.2.2) buffer2)), -⟩ := hf
      exact sg_plain rfl rfl (or_k [(21, .int .i64 (sb (ml 4096 t1.2.1) buffer2)), (26, .int .i64 (sb (ml 4096 t1.2.2) buffer2))] rfl rfl ⟨f_21, f_26, trivial⟩ (by kernel_rfl))
    refine steps_cons (fun own a wx hf hsl hE => ?_) ?_
    · exact sg_plain rfl rfl (or_new [] rfl rfl trivial (by kernel_rfl))
    refine steps_cons (fun own a wx hf hsl hE => ?_) ?_
    · obtain ⟨⟨g46, (f_6 : a.eval (.tmp 6) = .pointer (some ⟨g46, 0, none⟩)), (b_g46 : BlkO own 47 wx g46 23 #[.int .i64 0, .int .i64 0])⟩, (f_27 : a.eval (.tmp 27) = .agg #[.int .i64 (sb (ml 4096 t1.2.1) buffer2), .int .i64 (sb (ml 4096 t1.2.2) buffer2)]), -⟩ := hf
      exact sg_plain rfl rfl (or_store (l := #[.int .i64 (sb (ml 4096 t1.2.1) buffer2), .int .i64 (sb (ml 4096 t1.2.2) buffer2)]) (lab := 47) (lab2 := 48) ts23 f_6 f_27 b_g46 (by simp) (by kernel_rfl) (mem_of rfl) (by decide) (by kernel_rfl) (fun own' a' w' ha hb => ⟨_, (ha 6).trans f_6, hb⟩))
    exact steps_nil
  intro own49 a49 w49 hd49 hz49 hk49 hf49 hE49
  have e49_1 : a49.eval (.tmp 1) = .int .i64 buffer2 := (hk49 1 rfl).trans e42_1
  have e49_4 : a49.eval (.tmp 4) = .pointer (some ⟨g36, 0, none⟩) := (hk49 4 rfl).trans e42_4
  obtain ⟨⟨g46, (f_6 : a49.eval (.tmp 6) = .pointer (some ⟨g46, 0, none⟩)), (b_g46 : BlkO own49 48 w49 g46 23 #[.int .i64 (sb (ml 4096 t1.2.1) buffer2), .int .i64 (sb (ml 4096 t1.2.2) buffer2)])⟩, -⟩ := hf49 [12] rfl
  have e49_6 := f_6
  have hX49 := Evo.step hX42 (fun _ => Nat.le_refl 0) hE49 rfl
  have b49_g36 := BlkO.evo (by decide) hE49 b42_g36
  have b49_g46 := b_g46
  refine rg_plain_seq (n := 42) (rs := []) (own0 := own49) (K := [])
      (bs := [0, 1, 3, 7])
      (ds := [⟨[], [1], [], Fct.val 28 (.int .i64 buffer2)⟩,
      ⟨[0], [], [], Fct.val 29 (.int .i64 (ml 2 buffer2))⟩,
      ⟨[1], [], [], Fct.val 30 (.int .i64 (ad 4096 (ml 2 buffer2)))⟩,
      ⟨[2], [], [], Fct.val 7 (.int .i64 (ad 4096 (ml 2 buffer2)))⟩]) (by kernel_rfl) hz49 hd49 (fun _ h => nomatch h) ?_ ?_
  · refine steps_cons (fun own a wx hf hsl hE => ?_) ?_
    · obtain ⟨s_1, -⟩ := hsl
      exact sg_plain rfl rfl (or_move (s_1.trans e49_1))
    refine steps_cons (fun own a wx hf hsl hE => ?_) ?_
    · obtain ⟨(f_28 : a.eval (.tmp 28) = .int .i64 buffer2), -⟩ := hf
      exact sg_plain rfl rfl (or_mul rfl f_28 rfl)
    refine steps_cons (fun own a wx hf hsl hE => ?_) ?_
    · obtain ⟨(f_29 : a.eval (.tmp 29) = .int .i64 (ml 2 buffer2)), -⟩ := hf
      exact sg_plain rfl rfl (or_add rfl f_29 rfl)
    refine steps_cons (fun own a wx hf hsl hE => ?_) ?_
    · obtain ⟨(f_30 : a.eval (.tmp 30) = .int .i64 (ad 4096 (ml 2 buffer2))), -⟩ := hf
      exact sg_plain rfl rfl (or_assign f_30)
    exact steps_nil
  intro own50 a50 w50 hd50 hz50 hk50 hf50 hE50
  have e50_4 : a50.eval (.tmp 4) = .pointer (some ⟨g36, 0, none⟩) := (hk50 4 rfl).trans e49_4
  have e50_6 : a50.eval (.tmp 6) = .pointer (some ⟨g46, 0, none⟩) := (hk50 6 rfl).trans e49_6
  obtain ⟨(f_7 : a50.eval (.tmp 7) = .int .i64 (ad 4096 (ml 2 buffer2))), -⟩ := hf50 [3] rfl
  have e50_7 := f_7
  have hX50 := Evo.step hX49 (fun _ => Nat.le_refl 0) hE50 rfl
  have b50_g36 := BlkO.evo (by decide) hE50 b49_g36
  have b50_g46 := BlkO.evo (by decide) hE50 b49_g46
  obtain ⟨x53, hx53, hs⟩ := obind hs
  obtain ⟨x54, hx54, hs⟩ := obind hs
  refine rg_plain_seq (n := 42) (rs := [Fct.at_ 37 g36 25 #[.int .i64 0, .int .i64 0, .int .i64 0, .int .i64 0]]) (own0 := own50) (K := [37])
      (bs := [0, 0, 2, 0, 14, 0, 32, 0, 224, 510, 1023, 2047, 4095])
      (ds := [⟨[], [6], [], Fct.val 31 (.agg #[.int .i64 (sb (ml 4096 t1.2.1) buffer2), .int .i64 (sb (ml 4096 t1.2.2) buffer2)])⟩,
      ⟨[], [6], [], Fct.val 32 (.pointer (some ⟨g46, 0, none⟩))⟩,
      ⟨[1], [], [], Fct.val 33 (.int .i64 (sb (ml 4096 t1.2.1) buffer2))⟩,
      ⟨[], [7], [], Fct.val 34 (.int .i64 (ad 4096 (ml 2 buffer2)))⟩,
      ⟨[2, 3], [], [], Fct.val 35 (.int .i64 x53)⟩,
      ⟨[], [6], [], Fct.val 36 (.pointer (some ⟨g46, 1, none⟩))⟩,
      ⟨[5], [], [], Fct.val 37 (.int .i64 (sb (ml 4096 t1.2.2) buffer2))⟩,
      ⟨[], [7], [], Fct.val 38 (.int .i64 (ad 4096 (ml 2 buffer2)))⟩,
      ⟨[6, 7], [], [], Fct.val 39 (.int .i64 x54)⟩,
      ⟨[4, 8], [], [], Fct.val 40 (.agg #[.int .i64 x53, .int .i64 x54])⟩,
      ⟨[0, 9], [], [], Fct.val 41 (.agg #[.int .i64 (sb (ml 4096 t1.2.1) buffer2), .int .i64 (sb (ml 4096 t1.2.2) buffer2), .int .i64 x53, .int .i64 x54])⟩,
      ⟨[10, 13], [4], [37], Fct.at_ 55 g36 25 #[.int .i64 (sb (ml 4096 t1.2.1) buffer2), .int .i64 (sb (ml 4096 t1.2.2) buffer2), .int .i64 x53, .int .i64 x54]⟩,
      ⟨[], [], [], Fct.val 5 (.bool true)⟩]) (by kernel_rfl) hz50 hd50 (by simp only [List.forall_mem_cons]; exact ⟨b50_g36, fun _ h => nomatch h⟩) ?_ ?_
  · refine steps_cons (fun own a wx hf hsl hE => ?_) ?_
    · obtain ⟨s_6, -⟩ := hsl
      exact sg_plain rfl rfl (or_load (l := [.int .i64 (sb (ml 4096 t1.2.1) buffer2), .int .i64 (sb (ml 4096 t1.2.2) buffer2)]) ta23 (s_6.trans e50_6) (Blk.cellsFrom (BlkO.evo (by decide) hE b50_g46).2 0 rfl) rfl)
    refine steps_cons (fun own a wx hf hsl hE => ?_) ?_
    · obtain ⟨s_6, -⟩ := hsl
      exact sg_plain rfl rfl (or_field fo23_0 (s_6.trans e50_6) (by rfl))
    refine steps_cons (fun own a wx hf hsl hE => ?_) ?_
    · obtain ⟨(f_32 : a.eval (.tmp 32) = .pointer (some ⟨g46, 0, none⟩)), -⟩ := hf
      exact sg_plain rfl rfl (or_load1 to3 f_32 (Blk.at_ (BlkO.evo (by decide) hE b50_g46).2 0 rfl))
    refine steps_cons (fun own a wx hf hsl hE => ?_) ?_
    · obtain ⟨s_7, -⟩ := hsl
      exact sg_plain rfl rfl (or_move (s_7.trans e50_7))
    refine steps_cons (fun own a wx hf hsl hE => ?_) ?_
    · obtain ⟨(f_33 : a.eval (.tmp 33) = .int .i64 (sb (ml 4096 t1.2.1) buffer2)), (f_34 : a.eval (.tmp 34) = .int .i64 (ad 4096 (ml 2 buffer2))), -⟩ := hf
      exact sg_plain rfl rfl (or_add f_33 f_34 (osome hx53).symm)
    refine steps_cons (fun own a wx hf hsl hE => ?_) ?_
    · obtain ⟨s_6, -⟩ := hsl
      exact sg_plain rfl rfl (or_field fo23_1 (s_6.trans e50_6) (by rfl))
    refine steps_cons (fun own a wx hf hsl hE => ?_) ?_
    · obtain ⟨(f_36 : a.eval (.tmp 36) = .pointer (some ⟨g46, 1, none⟩)), -⟩ := hf
      exact sg_plain rfl rfl (or_load1 to3 f_36 (Blk.at_ (BlkO.evo (by decide) hE b50_g46).2 1 rfl))
    refine steps_cons (fun own a wx hf hsl hE => ?_) ?_
    · obtain ⟨s_7, -⟩ := hsl
      exact sg_plain rfl rfl (or_move (s_7.trans e50_7))
    refine steps_cons (fun own a wx hf hsl hE => ?_) ?_
    · obtain ⟨(f_37 : a.eval (.tmp 37) = .int .i64 (sb (ml 4096 t1.2.2) buffer2)), (f_38 : a.eval (.tmp 38) = .int .i64 (ad 4096 (ml 2 buffer2))), -⟩ := hf
      exact sg_plain rfl rfl (or_add f_37 f_38 (osome hx54).symm)
    refine steps_cons (fun own a wx hf hsl hE => ?_) ?_
    · obtain ⟨(f_35 : a.eval (.tmp 35) = .int .i64 x53), (f_39 : a.eval (.tmp 39) = .int .i64 x54), -⟩ := hf
      exact sg_plain rfl rfl (or_k [(35, .int .i64 x53), (39, .int .i64 x54)] rfl rfl ⟨f_35, f_39, trivial⟩ (by kernel_rfl))
    refine steps_cons (fun own a wx hf hsl hE => ?_) ?_
    · obtain ⟨(f_31 : a.eval (.tmp 31) = .agg #[.int .i64 (sb (ml 4096 t1.2.1) buffer2), .int .i64 (sb (ml 4096 t1.2.2) buffer2)]), (f_40 : a.eval (.tmp 40) = .agg #[.int .i64 x53, .int .i64 x54]), -⟩ := hf
      exact sg_plain rfl rfl (or_k [(31, .agg #[.int .i64 (sb (ml 4096 t1.2.1) buffer2), .int .i64 (sb (ml 4096 t1.2.2) buffer2)]), (40, .agg #[.int .i64 x53, .int .i64 x54])] rfl rfl ⟨f_31, f_40, trivial⟩ (by kernel_rfl))
    refine steps_cons (fun own a wx hf hsl hE => ?_) ?_
    · obtain ⟨(f_41 : a.eval (.tmp 41) = .agg #[.int .i64 (sb (ml 4096 t1.2.1) buffer2), .int .i64 (sb (ml 4096 t1.2.2) buffer2), .int .i64 x53, .int .i64 x54]), (b_g36 : BlkO own 37 wx g36 25 #[.int .i64 0, .int .i64 0, .int .i64 0, .int .i64 0]), -⟩ := hf
      obtain ⟨s_4, -⟩ := hsl
      exact sg_plain rfl rfl (or_store (l := #[.int .i64 (sb (ml 4096 t1.2.1) buffer2), .int .i64 (sb (ml 4096 t1.2.2) buffer2), .int .i64 x53, .int .i64 x54]) (lab := 37) (lab2 := 55) ts25 (s_4.trans e50_4) f_41 b_g36 (by simp) (by kernel_rfl) (mem_of rfl) (by decide) (by kernel_rfl) (fun own' a' w' ha hb => hb))
    refine steps_cons (fun own a wx hf hsl hE => ?_) ?_
    · exact sg_plain rfl rfl (or_assign rfl)
    exact steps_nil
  intro own56 a56 w56 hd56 hz56 hk56 hf56 hE56
  have e56_4 : a56.eval (.tmp 4) = .pointer (some ⟨g36, 0, none⟩) := (hk56 4 rfl).trans e50_4
  obtain ⟨(f_5 : a56.eval (.tmp 5) = .bool true), (b_g36 : BlkO own56 55 w56 g36 25 #[.int .i64 (sb (ml 4096 t1.2.1) buffer2), .int .i64 (sb (ml 4096 t1.2.2) buffer2), .int .i64 x53, .int .i64 x54]), -⟩ := hf56 [12, 11] rfl
  have e56_5 := f_5
  have hX56 := Evo.step hX50 (fun _ => Nat.le_refl 0) hE56 rfl
  have b56_g36 := b_g36
  refine fl_ret ?_
  obtain rfl := osome hs
  exact hret _ _ _ _ (.inl rfl) hd56 (results2_ rfl (RVal.cell_ e56_4 (run_loadVarAgg (l := [.int .i64 (sb (ml 4096 t1.2.1) buffer2), .int .i64 (sb (ml 4096 t1.2.2) buffer2), .int .i64 x53, .int .i64 x54]) ta25 (Blk.cellsFrom b56_g36.2 0 rfl) rfl)) (RVal.tmp_ e56_5)) ⟨own56, rfl, hX56⟩

theorem law20_known_w (w : World) (r : Bool) (hs : law20_known = some r) :
    Calls Try.prog 15 #[] w fun e w' => ∃ own' : Own, e = .returned (.bool r) ∧ Evo [] (fun _ => 0) own' w w' := by
  refine fl_enter (n := 54) rfl rfl rfl (Nat.le_of_ble_eq_true rfl) ?_
  intro a0 Q hd0 hz0 harg hret
  clear harg
  have hE0 : Evo [] (fun _ => 0) (fun _ => 0) w w := Evo.refl _ _ _
  refine rg_plain_seq (n := 54) (rs := []) (own0 := (fun _ => 0)) (K := [])
      (bs := [0])
      (ds := [⟨[], [], [], Fct.val 0 (.bool false)⟩]) (by kernel_rfl) hz0 hd0 (fun _ h => nomatch h) ?_ ?_
  · refine steps_cons (fun own a wx hf hsl hE => ?_) ?_
    · exact sg_plain rfl rfl (or_assign rfl)
    exact steps_nil
  intro own38 a38 w38 hd38 hz38 hk38 hf38 hE38
  have hX38 := Evo.step hE0 (fun _ => Nat.le_refl 0) hE38 rfl
  obtain ⟨r39, hr39, hs⟩ := obind hs
  refine rg_plain_seq (n := 54) (rs := []) (own0 := own38) (K := [41])
      (bs := [0, 1, 3, 7, 7, 0, 47, 127])
      (ds := [⟨[], [], [], Fct.val 7 (.agg #[.int .i64 1, .int .i64 1, .int .i64 0])⟩,
      ⟨[0], [], [], Fct.val 8 (.tuple #[.agg #[.int .i64 r39.1.1.1, .int .i64 r39.1.1.2, .int .i64 r39.1.2.1, .int .i64 r39.1.2.2], .bool r39.2])⟩,
      ⟨[1], [], [], Fct.val 6 (.tuple #[.agg #[.int .i64 r39.1.1.1, .int .i64 r39.1.1.2, .int .i64 r39.1.2.1, .int .i64 r39.1.2.2], .bool r39.2])⟩,
      ⟨[2], [], [], Fct.val 9 (.agg #[.int .i64 r39.1.1.1, .int .i64 r39.1.1.2, .int .i64 r39.1.2.1, .int .i64 r39.1.2.2])⟩,
      ⟨[2], [], [], Fct.val 10 (.bool r39.2)⟩,
      ⟨[], [], [], Fct.blk 41 1 (fun g => .pointer (some ⟨g, 0, none⟩)) 25 #[.int .i64 0, .int .i64 0, .int .i64 0, .int .i64 0]⟩,
      ⟨[5, 3], [], [41], Fct.blk 42 1 (fun g => .pointer (some ⟨g, 0, none⟩)) 25 #[.int .i64 r39.1.1.1, .int .i64 r39.1.1.2, .int .i64 r39.1.2.1, .int .i64 r39.1.2.2]⟩,
      ⟨[4], [], [], Fct.val 2 (.bool r39.2)⟩]) (by kernel_rfl) hz38 hd38 (fun _ h => nomatch h) ?_ ?_
  · refine steps_cons (fun own a wx hf hsl hE => ?_) ?_
    · exact sg_plain rfl rfl (or_k [] rfl rfl trivial (by kernel_rfl))
    refine steps_cons (fun own a wx hf hsl hE => ?_) ?_
    · obtain ⟨(f_7 : a.eval (.tmp 7) = .agg #[.int .i64 1, .int .i64 1, .int .i64 0]), -⟩ := hf
      exact sg_plain rfl rfl (or_call cf14 (args2 f_7 rfl) (window_Window_w _ (1, 1, 0) 100  r39 hr39) post_val)
    refine steps_cons (fun own a wx hf hsl hE => ?_) ?_
    · obtain ⟨(f_8 : a.eval (.tmp 8) = .tuple #[.agg #[.int .i64 r39.1.1.1, .int .i64 r39.1.1.2, .int .i64 r39.1.2.1, .int .i64 r39.1.2.2], .bool r39.2]), -⟩ := hf
      exact sg_plain rfl rfl (or_move f_8)
    refine steps_cons (fun own a wx hf hsl hE => ?_) ?_
    · obtain ⟨(f_6 : a.eval (.tmp 6) = .tuple #[.agg #[.int .i64 r39.1.1.1, .int .i64 r39.1.1.2, .int .i64 r39.1.2.1, .int .i64 r39.1.2.2], .bool r39.2]), -⟩ := hf
      exact sg_plain rfl rfl (or_k [(6, .tuple #[.agg #[.int .i64 r39.1.1.1, .int .i64 r39.1.1.2, .int .i64 r39.1.2.1, .int .i64 r39.1.2.2], .bool r39.2])] rfl rfl ⟨f_6, trivial⟩ (by kernel_rfl))
    refine steps_cons (fun own a wx hf hsl hE => ?_) ?_
    · obtain ⟨(f_6 : a.eval (.tmp 6) = .tuple #[.agg #[.int .i64 r39.1.1.1, .int .i64 r39.1.1.2, .int .i64 r39.1.2.1, .int .i64 r39.1.2.2], .bool r39.2]), -⟩ := hf
      exact sg_plain rfl rfl (or_k [(6, .tuple #[.agg #[.int .i64 r39.1.1.1, .int .i64 r39.1.1.2, .int .i64 r39.1.2.1, .int .i64 r39.1.2.2], .bool r39.2])] rfl rfl ⟨f_6, trivial⟩ (by kernel_rfl))
    refine steps_cons (fun own a wx hf hsl hE => ?_) ?_
    · exact sg_plain rfl rfl (or_new [] rfl rfl trivial (by kernel_rfl))
    refine steps_cons (fun own a wx hf hsl hE => ?_) ?_
    · obtain ⟨⟨g40, (f_1 : a.eval (.tmp 1) = .pointer (some ⟨g40, 0, none⟩)), (b_g40 : BlkO own 41 wx g40 25 #[.int .i64 0, .int .i64 0, .int .i64 0, .int .i64 0])⟩, (f_9 : a.eval (.tmp 9) = .agg #[.int .i64 r39.1.1.1, .int .i64 r39.1.1.2, .int .i64 r39.1.2.1, .int .i64 r39.1.2.2]), -⟩ := hf
      exact sg_plain rfl rfl (or_store (l := #[.int .i64 r39.1.1.1, .int .i64 r39.1.1.2, .int .i64 r39.1.2.1, .int .i64 r39.1.2.2]) (lab := 41) (lab2 := 42) ts25 f_1 f_9 b_g40 (by simp) (by kernel_rfl) (mem_of rfl) (by decide) (by kernel_rfl) (fun own' a' w' ha hb => ⟨_, (ha 1).trans f_1, hb⟩))
    refine steps_cons (fun own a wx hf hsl hE => ?_) ?_
    · obtain ⟨(f_10 : a.eval (.tmp 10) = .bool r39.2), -⟩ := hf
      exact sg_plain rfl rfl (or_assign f_10)
    exact steps_nil
  intro own43 a43 w43 hd43 hz43 hk43 hf43 hE43
  obtain ⟨⟨g40, (f_1 : a43.eval (.tmp 1) = .pointer (some ⟨g40, 0, none⟩)), (b_g40 : BlkO own43 42 w43 g40 25 #[.int .i64 r39.1.1.1, .int .i64 r39.1.1.2, .int .i64 r39.1.2.1, .int .i64 r39.1.2.2])⟩, (f_2 : a43.eval (.tmp 2) = .bool r39.2), -⟩ := hf43 [6, 7] rfl
  have e43_1 := f_1
  have e43_2 := f_2
  have hX43 := Evo.step hX38 (fun _ => Nat.le_refl 0) hE43 rfl
  have b43_g40 := b_g40
  obtain ⟨r44, hr44, hs⟩ := obind hs
  refine rg_plain_seq (n := 54) (rs := []) (own0 := own43) (K := [46])
      (bs := [0, 1, 3, 7, 7, 0, 47, 127])
      (ds := [⟨[], [], [], Fct.val 12 (.agg #[.int .i64 4096, .int .i64 0])⟩,
      ⟨[0], [], [], Fct.val 13 (.tuple #[.agg #[.int .i64 r44.1.1, .int .i64 r44.1.2.1, .int .i64 r44.1.2.2], .bool r44.2])⟩,
      ⟨[1], [], [], Fct.val 11 (.tuple #[.agg #[.int .i64 r44.1.1, .int .i64 r44.1.2.1, .int .i64 r44.1.2.2], .bool r44.2])⟩,
      ⟨[2], [], [], Fct.val 14 (.agg #[.int .i64 r44.1.1, .int .i64 r44.1.2.1, .int .i64 r44.1.2.2])⟩,
      ⟨[2], [], [], Fct.val 15 (.bool r44.2)⟩,
      ⟨[], [], [], Fct.blk 46 3 (fun g => .pointer (some ⟨g, 0, none⟩)) 27 #[.int .i64 0, .int .i64 0, .int .i64 0]⟩,
      ⟨[5, 3], [], [46], Fct.blk 47 3 (fun g => .pointer (some ⟨g, 0, none⟩)) 27 #[.int .i64 r44.1.1, .int .i64 r44.1.2.1, .int .i64 r44.1.2.2]⟩,
      ⟨[4], [], [], Fct.val 4 (.bool r44.2)⟩]) (by kernel_rfl) hz43 hd43 (fun _ h => nomatch h) ?_ ?_
  · refine steps_cons (fun own a wx hf hsl hE => ?_) ?_
    · exact sg_plain rfl rfl (or_k [] rfl rfl trivial (by kernel_rfl))
    refine steps_cons (fun own a wx hf hsl hE => ?_) ?_
    · obtain ⟨(f_12 : a.eval (.tmp 12) = .agg #[.int .i64 4096, .int .i64 0]), -⟩ := hf
      exact sg_plain rfl rfl (or_call cf7 (args2 rfl f_12) (window_Of_w _ 1 (4096, 0)  r44 hr44) post_val)
    refine steps_cons (fun own a wx hf hsl hE => ?_) ?_
    · obtain ⟨(f_13 : a.eval (.tmp 13) = .tuple #[.agg #[.int .i64 r44.1.1, .int .i64 r44.1.2.1, .int .i64 r44.1.2.2], .bool r44.2]), -⟩ := hf
      exact sg_plain rfl rfl (or_move f_13)
    refine steps_cons (fun own a wx hf hsl hE => ?_) ?_
    · obtain ⟨(f_11 : a.eval (.tmp 11) = .tuple #[.agg #[.int .i64 r44.1.1, .int .i64 r44.1.2.1, .int .i64 r44.1.2.2], .bool r44.2]), -⟩ := hf
      exact sg_plain rfl rfl (or_k [(11, .tuple #[.agg #[.int .i64 r44.1.1, .int .i64 r44.1.2.1, .int .i64 r44.1.2.2], .bool r44.2])] rfl rfl ⟨f_11, trivial⟩ (by kernel_rfl))
    refine steps_cons (fun own a wx hf hsl hE => ?_) ?_
    · obtain ⟨(f_11 : a.eval (.tmp 11) = .tuple #[.agg #[.int .i64 r44.1.1, .int .i64 r44.1.2.1, .int .i64 r44.1.2.2], .bool r44.2]), -⟩ := hf
      exact sg_plain rfl rfl (or_k [(11, .tuple #[.agg #[.int .i64 r44.1.1, .int .i64 r44.1.2.1, .int .i64 r44.1.2.2], .bool r44.2])] rfl rfl ⟨f_11, trivial⟩ (by kernel_rfl))
    refine steps_cons (fun own a wx hf hsl hE => ?_) ?_
    · exact sg_plain rfl rfl (or_new [] rfl rfl trivial (by kernel_rfl))
    refine steps_cons (fun own a wx hf hsl hE => ?_) ?_
    · obtain ⟨⟨g45, (f_3 : a.eval (.tmp 3) = .pointer (some ⟨g45, 0, none⟩)), (b_g45 : BlkO own 46 wx g45 27 #[.int .i64 0, .int .i64 0, .int .i64 0])⟩, (f_14 : a.eval (.tmp 14) = .agg #[.int .i64 r44.1.1, .int .i64 r44.1.2.1, .int .i64 r44.1.2.2]), -⟩ := hf
      exact sg_plain rfl rfl (or_store (l := #[.int .i64 r44.1.1, .int .i64 r44.1.2.1, .int .i64 r44.1.2.2]) (lab := 46) (lab2 := 47) ts27 f_3 f_14 b_g45 (by simp) (by kernel_rfl) (mem_of rfl) (by decide) (by kernel_rfl) (fun own' a' w' ha hb => ⟨_, (ha 3).trans f_3, hb⟩))
    refine steps_cons (fun own a wx hf hsl hE => ?_) ?_
    · obtain ⟨(f_15 : a.eval (.tmp 15) = .bool r44.2), -⟩ := hf
      exact sg_plain rfl rfl (or_assign f_15)
    exact steps_nil
  intro own48 a48 w48 hd48 hz48 hk48 hf48 hE48
  have e48_1 : a48.eval (.tmp 1) = .pointer (some ⟨g40, 0, none⟩) := (hk48 1 rfl).trans e43_1
  have e48_2 : a48.eval (.tmp 2) = .bool r39.2 := (hk48 2 rfl).trans e43_2
  obtain ⟨⟨g45, (f_3 : a48.eval (.tmp 3) = .pointer (some ⟨g45, 0, none⟩)), (b_g45 : BlkO own48 47 w48 g45 27 #[.int .i64 r44.1.1, .int .i64 r44.1.2.1, .int .i64 r44.1.2.2])⟩, (f_4 : a48.eval (.tmp 4) = .bool r44.2), -⟩ := hf48 [6, 7] rfl
  have e48_3 := f_3
  have e48_4 := f_4
  have hX48 := Evo.step hX43 (fun _ => Nat.le_refl 0) hE48 rfl
  have b48_g40 := BlkO.evo (by decide) hE48 b43_g40
  have b48_g45 := b_g45
  refine rg_plain_seq (n := 54) (rs := []) (own0 := own48) (K := [50])
      (bs := [0, 0, 3])
      (ds := [⟨[], [], [], Fct.val 16 (.agg #[.int .i64 4096, .int .i64 5])⟩,
      ⟨[], [], [], Fct.blk 50 5 (fun g => .pointer (some ⟨g, 0, none⟩)) 23 #[.int .i64 0, .int .i64 0]⟩,
      ⟨[1, 0], [], [50], Fct.blk 51 5 (fun g => .pointer (some ⟨g, 0, none⟩)) 23 #[.int .i64 4096, .int .i64 5]⟩]) (by kernel_rfl) hz48 hd48 (fun _ h => nomatch h) ?_ ?_
  · refine steps_cons (fun own a wx hf hsl hE => ?_) ?_
    · exact sg_plain rfl rfl (or_k [] rfl rfl trivial (by kernel_rfl))
    refine steps_cons (fun own a wx hf hsl hE => ?_) ?_
    · exact sg_plain rfl rfl (or_new [] rfl rfl trivial (by kernel_rfl))
    refine steps_cons (fun own a wx hf hsl hE => ?_) ?_
    · obtain ⟨⟨g49, (f_5 : a.eval (.tmp 5) = .pointer (some ⟨g49, 0, none⟩)), (b_g49 : BlkO own 50 wx g49 23 #[.int .i64 0, .int .i64 0])⟩, (f_16 : a.eval (.tmp 16) = .agg #[.int .i64 4096, .int .i64 5]), -⟩ := hf
      exact sg_plain rfl rfl (or_store (l := #[.int .i64 4096, .int .i64 5]) (lab := 50) (lab2 := 51) ts23 f_5 f_16 b_g49 (by simp) (by kernel_rfl) (mem_of rfl) (by decide) (by kernel_rfl) (fun own' a' w' ha hb => ⟨_, (ha 5).trans f_5, hb⟩))
    exact steps_nil
  intro own52 a52 w52 hd52 hz52 hk52 hf52 hE52
  have e52_1 : a52.eval (.tmp 1) = .pointer (some ⟨g40, 0, none⟩) := (hk52 1 rfl).trans e48_1
  have e52_2 : a52.eval (.tmp 2) = .bool r39.2 := (hk52 2 rfl).trans e48_2
  have e52_3 : a52.eval (.tmp 3) = .pointer (some ⟨g45, 0, none⟩) := (hk52 3 rfl).trans e48_3
  have e52_4 : a52.eval (.tmp 4) = .bool r44.2 := (hk52 4 rfl).trans e48_4
  obtain ⟨⟨g49, (f_5 : a52.eval (.tmp 5) = .pointer (some ⟨g49, 0, none⟩)), (b_g49 : BlkO own52 51 w52 g49 23 #[.int .i64 4096, .int .i64 5])⟩, -⟩ := hf52 [2] rfl
  have e52_5 := f_5
  have hX52 := Evo.step hX48 (fun _ => Nat.le_refl 0) hE52 rfl
  have b52_g40 := BlkO.evo (by decide) hE52 b48_g40
  have b52_g45 := BlkO.evo (by decide) hE52 b48_g45
  have b52_g49 := b_g49
  obtain ⟨x53, hx53, hs⟩ := obind hs
  obtain ⟨x54, hx54, hs⟩ := obind hs
  obtain ⟨x55, hx55, hs⟩ := obind hs
  obtain ⟨r56, hr56, hs⟩ := obind hs
  obtain ⟨x59, hx59, hs⟩ := obind hs
  obtain ⟨r60, hr60, hs⟩ := obind hs
  obtain ⟨x63, hx63, hs⟩ := obind hs
  refine rg_plain_seq (n := 54) (rs := []) (own0 := own52) (K := [])
      (bs := [0, 1, 3, 7, 3, 31, 63, 127, 255, 511, 255, 2047, 4095, 8191, 16383, 32767, 65535, 131071, 131071, 524287, 1048575, 2097151, 4194303, 4194303, 16777215, 33554431, 67108863, 134217727, 268435455, 536870911, 1073741823, 1073741823, 4294967295, 8589934591, 17179869183, 34359738367, 68719476735, 137438953471])
      (ds := [⟨[], [2], [], Fct.val 17 (.bool r39.2)⟩,
      ⟨[0], [], [], Fct.val 18 (.bool r39.2)⟩,
      ⟨[1], [1], [], Fct.cond r39.2 (some 19) (Fct.val 19 (.pointer (some ⟨g40, 0, none⟩)))⟩,
      ⟨[1, 2], [], [], Fct.cond r39.2 (some 20) (Fct.val 20 (.agg #[.int .i64 r39.1.1.1, .int .i64 r39.1.1.2]))⟩,
      ⟨[1], [], [], Fct.cond r39.2 (some 21) (Fct.val 21 (.agg #[.int .i64 3996, .int .i64 (-100)]))⟩,
      ⟨[1, 3, 4], [], [], Fct.cond r39.2 (some 22) (Fct.val 22 (.bool (decide (r39.1.1 = (3996, (-100))))))⟩,
      ⟨[1, 5], [], [], Fct.val 23 (.bool x53)⟩,
      ⟨[6], [], [], Fct.val 24 (.bool x53)⟩,
      ⟨[7], [1], [], Fct.cond x53 (some 25) (Fct.val 25 (.pointer (some ⟨g40, 2, none⟩)))⟩,
      ⟨[7, 8], [], [], Fct.cond x53 (some 26) (Fct.val 26 (.agg #[.int .i64 r39.1.2.1, .int .i64 r39.1.2.2]))⟩,
      ⟨[7], [], [], Fct.cond x53 (some 27) (Fct.val 27 (.agg #[.int .i64 8292, .int .i64 4196]))⟩,
      ⟨[7, 9, 10], [], [], Fct.cond x53 (some 28) (Fct.val 28 (.bool (decide (r39.1.2 = (8292, 4196)))))⟩,
      ⟨[7, 11], [], [], Fct.val 29 (.bool x54)⟩,
      ⟨[12], [], [], Fct.val 30 (.bool x54)⟩,
      ⟨[13], [4], [], Fct.cond x54 (some 31) (Fct.val 31 (.bool r44.2))⟩,
      ⟨[13, 14], [], [], Fct.val 32 (.bool (x54 && r44.2))⟩,
      ⟨[15], [], [], Fct.val 33 (.bool (x54 && r44.2))⟩,
      ⟨[16], [3], [], Fct.cond (x54 && r44.2) (some 34) (Fct.val 34 (.agg #[.int .i64 r44.1.1, .int .i64 r44.1.2.1, .int .i64 r44.1.2.2]))⟩,
      ⟨[16], [], [], Fct.cond (x54 && r44.2) (some 35) (Fct.val 35 (.agg #[.int .i64 1, .int .i64 1, .int .i64 0]))⟩,
      ⟨[16, 17, 18], [], [], Fct.cond (x54 && r44.2) (some 36) (Fct.val 36 (.bool (decide (r44.1 = (1, 1, 0)))))⟩,
      ⟨[16, 19], [], [], Fct.val 37 (.bool x55)⟩,
      ⟨[20], [], [], Fct.val 38 (.bool x55)⟩,
      ⟨[21], [5], [], Fct.cond x55 (some 39) (Fct.val 39 (.agg #[.int .i64 4096, .int .i64 5]))⟩,
      ⟨[21], [5], [], Fct.cond x55 (some 40) (Fct.val 40 (.agg #[.int .i64 4096, .int .i64 5]))⟩,
      ⟨[21, 22, 23], [], [], Fct.cond x55 (some 41) (Fct.val 41 (.agg #[.int .i64 4096, .int .i64 5, .int .i64 4096, .int .i64 5]))⟩,
      ⟨[21, 24], [], [], Fct.cond x55 (some 42) (Fct.row 58 [] 42 27 R27 r56)⟩,
      ⟨[21, 25], [], [], Fct.cond x55 (some 43) (Fct.val 43 (.int .i64 (r56.length : Int)))⟩,
      ⟨[21, 26], [], [], Fct.cond x55 (some 44) (Fct.val 44 (.bool (decide ((r56.length : Int) = 0))))⟩,
      ⟨[21, 27], [], [], Fct.val 45 (.bool x59)⟩,
      ⟨[28], [], [], Fct.val 46 (.bool x59)⟩,
      ⟨[29], [5], [], Fct.cond x59 (some 47) (Fct.val 47 (.agg #[.int .i64 4096, .int .i64 5]))⟩,
      ⟨[29], [5], [], Fct.cond x59 (some 48) (Fct.val 48 (.agg #[.int .i64 4096, .int .i64 5]))⟩,
      ⟨[29, 30, 31], [], [], Fct.cond x59 (some 49) (Fct.val 49 (.agg #[.int .i64 4096, .int .i64 5, .int .i64 4096, .int .i64 5]))⟩,
      ⟨[29, 32], [], [], Fct.cond x59 (some 50) (Fct.row 62 [] 50 27 R27 r60)⟩,
      ⟨[29, 33], [], [], Fct.cond x59 (some 51) (Fct.val 51 (.int .i64 (r60.length : Int)))⟩,
      ⟨[29, 34], [], [], Fct.cond x59 (some 52) (Fct.val 52 (.bool (decide ((r60.length : Int) = 2))))⟩,
      ⟨[29, 35], [], [], Fct.val 53 (.bool x63)⟩,
      ⟨[36], [], [], Fct.val 0 (.bool x63)⟩]) (by kernel_rfl) hz52 hd52 (fun _ h => nomatch h) ?_ ?_
  · refine steps_cons (fun own a wx hf hsl hE => ?_) ?_
    · obtain ⟨s_2, -⟩ := hsl
      exact sg_plain rfl rfl (or_move (s_2.trans e52_2))
    refine steps_cons (fun own a wx hf hsl hE => ?_) ?_
    · obtain ⟨(f_17 : a.eval (.tmp 17) = .bool r39.2), -⟩ := hf
      exact sg_plain rfl rfl (or_move f_17)
    refine steps_cons (fun own a wx hf hsl hE => ?_) ?_
    · obtain ⟨(f_18 : a.eval (.tmp 18) = .bool r39.2), -⟩ := hf
      obtain ⟨s_1, -⟩ := hsl
      refine sg_t rfl rfl rfl f_18 (fun hg => ?_)
      exact or_field fo25_0 (s_1.trans e52_1) (by rfl)
    refine steps_cons (fun own a wx hf hsl hE => ?_) ?_
    · obtain ⟨(f_18 : a.eval (.tmp 18) = .bool r39.2), c_19, -⟩ := hf
      refine sg_t rfl rfl rfl f_18 (fun hg => ?_)
      have f_19 : a.eval (.tmp 19) = .pointer (some ⟨g40, 0, none⟩) := c_19.1 hg
      exact or_load (l := [.int .i64 r39.1.1.1, .int .i64 r39.1.1.2]) ta23 f_19 (Blk.cellsFrom (BlkO.evo (by decide) hE b52_g40).2 0 rfl) rfl
    refine steps_cons (fun own a wx hf hsl hE => ?_) ?_
    · obtain ⟨(f_18 : a.eval (.tmp 18) = .bool r39.2), -⟩ := hf
      refine sg_t rfl rfl rfl f_18 (fun hg => ?_)
      exact or_k [] rfl rfl trivial (by kernel_rfl)
    refine steps_cons (fun own a wx hf hsl hE => ?_) ?_
    · obtain ⟨(f_18 : a.eval (.tmp 18) = .bool r39.2), c_20, c_21, -⟩ := hf
      refine sg_t rfl rfl rfl f_18 (fun hg => ?_)
      have f_20 : a.eval (.tmp 20) = .agg #[.int .i64 r39.1.1.1, .int .i64 r39.1.1.2] := c_20.1 hg
      have f_21 : a.eval (.tmp 21) = .agg #[.int .i64 3996, .int .i64 (-100)] := c_21.1 hg
      exact or_eqlA sg23 f_20 f_21 (se23 r39.1.1.1 r39.1.1.2 3996 (-100) _) rfl
    refine steps_cons (fun own a wx hf hsl hE => ?_) ?_
    · obtain ⟨(f_18 : a.eval (.tmp 18) = .bool r39.2), c_22, -⟩ := hf
      exact sg_plain rfl rfl (or_and f_18 (fun hx => c_22.1 hx) rfl (osome hx53).symm)
    refine steps_cons (fun own a wx hf hsl hE => ?_) ?_
    · obtain ⟨(f_23 : a.eval (.tmp 23) = .bool x53), -⟩ := hf
      exact sg_plain rfl rfl (or_move f_23)
    refine steps_cons (fun own a wx hf hsl hE => ?_) ?_
    · obtain ⟨(f_24 : a.eval (.tmp 24) = .bool x53), -⟩ := hf
      obtain ⟨s_1, -⟩ := hsl
      refine sg_t rfl rfl rfl f_24 (fun hg => ?_)
      exact or_field fo25_1 (s_1.trans e52_1) (by rfl)
    refine steps_cons (fun own a wx hf hsl hE => ?_) ?_
    · obtain ⟨(f_24 : a.eval (.tmp 24) = .bool x53), c_25, -⟩ := hf
      refine sg_t rfl rfl rfl f_24 (fun hg => ?_)
      have f_25 : a.eval (.tmp 25) = .pointer (some ⟨g40, 2, none⟩) := c_25.1 hg
      exact or_load (l := [.int .i64 r39.1.2.1, .int .i64 r39.1.2.2]) ta23 f_25 (Blk.cellsFrom (BlkO.evo (by decide) hE b52_g40).2 2 rfl) rfl
    refine steps_cons (fun own a wx hf hsl hE => ?_) ?_
    · obtain ⟨(f_24 : a.eval (.tmp 24) = .bool x53), -⟩ := hf
      refine sg_t rfl rfl rfl f_24 (fun hg => ?_)
      exact or_k [] rfl rfl trivial (by kernel_rfl)
    refine steps_cons (fun own a wx hf hsl hE => ?_) ?_
    · obtain ⟨(f_24 : a.eval (.tmp 24) = .bool x53), c_26, c_27, -⟩ := hf
      refine sg_t rfl rfl rfl f_24 (fun hg => ?_)
      have f_26 : a.eval (.tmp 26) = .agg #[.int .i64 r39.1.2.1, .int .i64 r39.1.2.2] := c_26.1 hg
      have f_27 : a.eval (.tmp 27) = .agg #[.int .i64 8292, .int .i64 4196] := c_27.1 hg
      exact or_eqlA sg23 f_26 f_27 (se23 r39.1.2.1 r39.1.2.2 8292 4196 _) rfl
    refine steps_cons (fun own a wx hf hsl hE => ?_) ?_
    · obtain ⟨(f_24 : a.eval (.tmp 24) = .bool x53), c_28, -⟩ := hf
      exact sg_plain rfl rfl (or_and f_24 (fun hx => c_28.1 hx) rfl (osome hx54).symm)
    refine steps_cons (fun own a wx hf hsl hE => ?_) ?_
    · obtain ⟨(f_29 : a.eval (.tmp 29) = .bool x54), -⟩ := hf
      exact sg_plain rfl rfl (or_move f_29)
    refine steps_cons (fun own a wx hf hsl hE => ?_) ?_
    · obtain ⟨(f_30 : a.eval (.tmp 30) = .bool x54), -⟩ := hf
      obtain ⟨s_4, -⟩ := hsl
      refine sg_t rfl rfl rfl f_30 (fun hg => ?_)
      exact or_move (s_4.trans e52_4)
    refine steps_cons (fun own a wx hf hsl hE => ?_) ?_
    · obtain ⟨(f_30 : a.eval (.tmp 30) = .bool x54), c_31, -⟩ := hf
      exact sg_plain rfl rfl (or_and f_30 (fun hx => c_31.1 hx) rfl rfl)
    refine steps_cons (fun own a wx hf hsl hE => ?_) ?_
    · obtain ⟨(f_32 : a.eval (.tmp 32) = .bool (x54 && r44.2)), -⟩ := hf
      exact sg_plain rfl rfl (or_move f_32)
    refine steps_cons (fun own a wx hf hsl hE => ?_) ?_
    · obtain ⟨(f_33 : a.eval (.tmp 33) = .bool (x54 && r44.2)), -⟩ := hf
      obtain ⟨s_3, -⟩ := hsl
      refine sg_t rfl rfl rfl f_33 (fun hg => ?_)
      exact or_load (l := [.int .i64 r44.1.1, .int .i64 r44.1.2.1, .int .i64 r44.1.2.2]) ta27 (s_3.trans e52_3) (Blk.cellsFrom (BlkO.evo (by decide) hE b52_g45).2 0 rfl) rfl
    refine steps_cons (fun own a wx hf hsl hE => ?_) ?_
    · obtain ⟨(f_33 : a.eval (.tmp 33) = .bool (x54 && r44.2)), -⟩ := hf
      refine sg_t rfl rfl rfl f_33 (fun hg => ?_)
      exact or_k [] rfl rfl trivial (by kernel_rfl)
    refine steps_cons (fun own a wx hf hsl hE => ?_) ?_
    · obtain ⟨(f_33 : a.eval (.tmp 33) = .bool (x54 && r44.2)), c_34, c_35, -⟩ := hf
      refine sg_t rfl rfl rfl f_33 (fun hg => ?_)
      have f_34 : a.eval (.tmp 34) = .agg #[.int .i64 r44.1.1, .int .i64 r44.1.2.1, .int .i64 r44.1.2.2] := c_34.1 hg
      have f_35 : a.eval (.tmp 35) = .agg #[.int .i64 1, .int .i64 1, .int .i64 0] := c_35.1 hg
      exact or_eqlA sg27 f_34 f_35 (se27 r44.1.1 r44.1.2.1 r44.1.2.2 1 1 0 _) rfl
    refine steps_cons (fun own a wx hf hsl hE => ?_) ?_
    · obtain ⟨(f_33 : a.eval (.tmp 33) = .bool (x54 && r44.2)), c_36, -⟩ := hf
      exact sg_plain rfl rfl (or_and f_33 (fun hx => c_36.1 hx) rfl (osome hx55).symm)
    refine steps_cons (fun own a wx hf hsl hE => ?_) ?_
    · obtain ⟨(f_37 : a.eval (.tmp 37) = .bool x55), -⟩ := hf
      exact sg_plain rfl rfl (or_move f_37)
    refine steps_cons (fun own a wx hf hsl hE => ?_) ?_
    · obtain ⟨(f_38 : a.eval (.tmp 38) = .bool x55), -⟩ := hf
      obtain ⟨s_5, -⟩ := hsl
      refine sg_t rfl rfl rfl f_38 (fun hg => ?_)
      exact or_load (l := [.int .i64 4096, .int .i64 5]) ta23 (s_5.trans e52_5) (Blk.cellsFrom (BlkO.evo (by decide) hE b52_g49).2 0 rfl) rfl
    refine steps_cons (fun own a wx hf hsl hE => ?_) ?_
    · obtain ⟨(f_38 : a.eval (.tmp 38) = .bool x55), -⟩ := hf
      obtain ⟨s_5, -⟩ := hsl
      refine sg_t rfl rfl rfl f_38 (fun hg => ?_)
      exact or_load (l := [.int .i64 4096, .int .i64 5]) ta23 (s_5.trans e52_5) (Blk.cellsFrom (BlkO.evo (by decide) hE b52_g49).2 0 rfl) rfl
    refine steps_cons (fun own a wx hf hsl hE => ?_) ?_
    · obtain ⟨(f_38 : a.eval (.tmp 38) = .bool x55), c_39, c_40, -⟩ := hf
      refine sg_t rfl rfl rfl f_38 (fun hg => ?_)
      have f_39 : a.eval (.tmp 39) = .agg #[.int .i64 4096, .int .i64 5] := c_39.1 hg
      have f_40 : a.eval (.tmp 40) = .agg #[.int .i64 4096, .int .i64 5] := c_40.1 hg
      exact or_k [(39, .agg #[.int .i64 4096, .int .i64 5]), (40, .agg #[.int .i64 4096, .int .i64 5])] rfl rfl ⟨f_39, f_40, trivial⟩ (by kernel_rfl)
    refine steps_cons (fun own a wx hf hsl hE => ?_) ?_
    · obtain ⟨(f_38 : a.eval (.tmp 38) = .bool x55), c_41, -⟩ := hf
      refine sg_t rfl rfl rfl f_38 (fun hg => ?_)
      have f_41 : a.eval (.tmp 41) = .agg #[.int .i64 4096, .int .i64 5, .int .i64 4096, .int .i64 5] := c_41.1 hg
      exact or_call cf10 (args3 rfl rfl f_41) (window_Shown_w _ 1 0 ((4096, 5), (4096, 5))  r56 (gd_t hr56 hg)) (post_row (m' := (look0 [(1, 58)])) (.inl (Rep.fl_flat _)) rfl rfl (fun _ => rfl))
    refine steps_cons (fun own a wx hf hsl hE => ?_) ?_
    · obtain ⟨(f_38 : a.eval (.tmp 38) = .bool x55), c_42, -⟩ := hf
      refine sg_t rfl rfl rfl f_38 (fun hg => ?_)
      obtain ⟨⟨A57, cA57⟩, (f_42 : a.eval (.tmp 42) = .slice A57 r56.length cA57), (b_A57 : RwO own 58 [] wx 27 R27 A57 cA57 r56)⟩ := c_42.1 hg
      exact or_len tu35 f_42 rfl
    refine steps_cons (fun own a wx hf hsl hE => ?_) ?_
    · obtain ⟨(f_38 : a.eval (.tmp 38) = .bool x55), c_43, -⟩ := hf
      refine sg_t rfl rfl rfl f_38 (fun hg => ?_)
      have f_43 : a.eval (.tmp 43) = .int .i64 (r56.length : Int) := c_43.1 hg
      exact or_eql f_43 rfl rfl
    refine steps_cons (fun own a wx hf hsl hE => ?_) ?_
    · obtain ⟨(f_38 : a.eval (.tmp 38) = .bool x55), c_44, -⟩ := hf
      exact sg_plain rfl rfl (or_and f_38 (fun hx => c_44.1 hx) rfl (osome hx59).symm)
    refine steps_cons (fun own a wx hf hsl hE => ?_) ?_
    · obtain ⟨(f_45 : a.eval (.tmp 45) = .bool x59), -⟩ := hf
      exact sg_plain rfl rfl (or_move f_45)
    refine steps_cons (fun own a wx hf hsl hE => ?_) ?_
    · obtain ⟨(f_46 : a.eval (.tmp 46) = .bool x59), -⟩ := hf
      obtain ⟨s_5, -⟩ := hsl
      refine sg_t rfl rfl rfl f_46 (fun hg => ?_)
      exact or_load (l := [.int .i64 4096, .int .i64 5]) ta23 (s_5.trans e52_5) (Blk.cellsFrom (BlkO.evo (by decide) hE b52_g49).2 0 rfl) rfl
    refine steps_cons (fun own a wx hf hsl hE => ?_) ?_
    · obtain ⟨(f_46 : a.eval (.tmp 46) = .bool x59), -⟩ := hf
      obtain ⟨s_5, -⟩ := hsl
      refine sg_t rfl rfl rfl f_46 (fun hg => ?_)
      exact or_load (l := [.int .i64 4096, .int .i64 5]) ta23 (s_5.trans e52_5) (Blk.cellsFrom (BlkO.evo (by decide) hE b52_g49).2 0 rfl) rfl
    refine steps_cons (fun own a wx hf hsl hE => ?_) ?_
    · obtain ⟨(f_46 : a.eval (.tmp 46) = .bool x59), c_47, c_48, -⟩ := hf
      refine sg_t rfl rfl rfl f_46 (fun hg => ?_)
      have f_47 : a.eval (.tmp 47) = .agg #[.int .i64 4096, .int .i64 5] := c_47.1 hg
      have f_48 : a.eval (.tmp 48) = .agg #[.int .i64 4096, .int .i64 5] := c_48.1 hg
      exact or_k [(47, .agg #[.int .i64 4096, .int .i64 5]), (48, .agg #[.int .i64 4096, .int .i64 5])] rfl rfl ⟨f_47, f_48, trivial⟩ (by kernel_rfl)
    refine steps_cons (fun own a wx hf hsl hE => ?_) ?_
    · obtain ⟨(f_46 : a.eval (.tmp 46) = .bool x59), c_49, -⟩ := hf
      refine sg_t rfl rfl rfl f_46 (fun hg => ?_)
      have f_49 : a.eval (.tmp 49) = .agg #[.int .i64 4096, .int .i64 5, .int .i64 4096, .int .i64 5] := c_49.1 hg
      exact or_call cf10 (args3 rfl rfl f_49) (window_Shown_w _ 1 1 ((4096, 5), (4096, 5))  r60 (gd_t hr60 hg)) (post_row (m' := (look0 [(1, 62)])) (.inl (Rep.fl_flat _)) rfl rfl (fun _ => rfl))
    refine steps_cons (fun own a wx hf hsl hE => ?_) ?_
    · obtain ⟨(f_46 : a.eval (.tmp 46) = .bool x59), c_50, -⟩ := hf
      refine sg_t rfl rfl rfl f_46 (fun hg => ?_)
      obtain ⟨⟨A61, cA61⟩, (f_50 : a.eval (.tmp 50) = .slice A61 r60.length cA61), (b_A61 : RwO own 62 [] wx 27 R27 A61 cA61 r60)⟩ := c_50.1 hg
      exact or_len tu35 f_50 rfl
    refine steps_cons (fun own a wx hf hsl hE => ?_) ?_
    · obtain ⟨(f_46 : a.eval (.tmp 46) = .bool x59), c_51, -⟩ := hf
      refine sg_t rfl rfl rfl f_46 (fun hg => ?_)
      have f_51 : a.eval (.tmp 51) = .int .i64 (r60.length : Int) := c_51.1 hg
      exact or_eql f_51 rfl rfl
    refine steps_cons (fun own a wx hf hsl hE => ?_) ?_
    · obtain ⟨(f_46 : a.eval (.tmp 46) = .bool x59), c_52, -⟩ := hf
      exact sg_plain rfl rfl (or_and f_46 (fun hx => c_52.1 hx) rfl (osome hx63).symm)
    refine steps_cons (fun own a wx hf hsl hE => ?_) ?_
    · obtain ⟨(f_53 : a.eval (.tmp 53) = .bool x63), -⟩ := hf
      exact sg_plain rfl rfl (or_assign f_53)
    exact steps_nil
  intro own64 a64 w64 hd64 hz64 hk64 hf64 hE64
  obtain ⟨(f_0 : a64.eval (.tmp 0) = .bool x63), -⟩ := hf64 [37] rfl
  have e64_0 := f_0
  have hX64 := Evo.step hX52 (fun _ => Nat.le_refl 0) hE64 rfl
  refine fl_ret ?_
  obtain rfl := (osome hs).symm
  exact hret _ _ _ _ (.inl rfl) hd64 (results1_ rfl (RVal.tmp_ e64_0)) ⟨own64, rfl, hX64⟩

end Go.Proofs.Ytehmjkdgakinbaa
